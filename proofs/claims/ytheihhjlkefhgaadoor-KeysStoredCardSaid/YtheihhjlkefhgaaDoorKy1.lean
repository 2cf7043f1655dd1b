/- Keys: the functions of the program and of the document, by the symbolic machine (printed by genky.py; VCs by VcTool). -/
import Derived.Test.YtheihhjlkefhgaaDoorCm
namespace Go.Proofs.YtheihhjlkefhgaaDoor
open Go.RowKit Go.Lib Ckp Cfd Cpd Sx
set_option linter.unusedVariables false
set_option linter.unusedSimpArgs false
set_option maxRecDepth 1000000
/-- What the walks of keys are stuck on. -/
structure OY where
 fac : ByteArray → Int → Int → Int
 cs : Int → Array Value → Nat → Int
def facO (O : OO) (s : ByteArray) (a b : Int) : Int := O.ffrom (AV (O.tag s [O.be8 a, O.be8 b]))
def secF (Y : OY) (n : Int) (a : Array Value) (i : Nat) : Int := bif okN n then Y.cs (IntKind.i64.wrap (1048575 - n)) a i else 0
def kitB : ByteArray := ByteArray.mk #[107, 105, 116]
def mixB : ByteArray := ByteArray.mk #[109, 105, 120]
def revB : ByteArray := ByteArray.mk #[114, 101, 118, 111, 107, 101]
def cel (l : List Int) (i : Nat) : Int := l.getD i 0
def kitF (O : OO) (a : Array Value) (n : Int) : Nat → Int := O.tag kitB [intsA a, [n]]
def mixO (O : OO) (Y : OY) (b p : Int) : Int := O.padd b (O.pbase (Y.fac mixB p b))
def msecO (O : OO) (Y : OY) (b p : Int) : Int := O.fadd b (Y.fac mixB p (O.pbase b))
def revO (O : OO) (Y : OY) (b p : Int) : Int := O.padd (O.pscale b (Y.fac revB b p)) (O.pscale p (Y.fac revB p b))
def perO (O : OO) (a : Array Value) : Int := O.pbase (O.ffrom a)
def rsecO (O : OO) (Y : OY) (b : Int) (a : Array Value) : Int := O.fadd (O.fmul b (Y.fac revB (O.pbase b) (perO O a))) (O.fmul (O.ffrom a) (Y.fac revB (perO O a) (O.pbase b)))
def yO (O : OO) : OY := ⟨facO O, fun p a => stepS O p 20 (fnA a) 20⟩
theorem csH {O : OO} {Y : OY} (F : FO O) (hy : Y = yO O) {p : Int} {m : Nat → Int} (h : O.isH (AV m) = true) : O.isH (AV (Y.cs p (AV m))) = true := by
 subst hy
 have e : AV (fnA (AV m)) = AV m := by kernel_rfl
 exact stepH F (m := fnA (AV m)) (by rw [e]; exact h) 20
theorem facU {O : OO} {Y : OY} (F : FO O) (hy : Y = yO O) (s : ByteArray) (a b : Int) : inU (Y.fac s a b) 18446744073709551616 = true := by subst hy; exact F.ffrom _
theorem secF_no {Y : OY} {n : Int} {a : Array Value} (h : okN n = false) : AV (secF Y n a) = Array.mk (List.replicate 32 (Value.int .u8 0)) := by
 have e : secF Y n a = fun _ => 0 := by funext i; unfold secF; rw [h]; rfl
 rw [e]; rfl
theorem secF_yes {Y : OY} {n : Int} {a : Array Value} (h : okN n = true) : secF Y n a = Y.cs (IntKind.i64.wrap (1048575 - n)) a := by funext i; unfold secF; rw [h]; rfl
theorem app_len {l : List Int} {x : Int} {k : Nat} (h : l.length ≤ k) : (Sx.app l [x]).length ≤ k + 1 := by simp only [Sx.app, List.length_append, List.length_cons, List.length_nil]; omega
theorem app_fit {l : List Int} {x : Int} {k : Nat} (h : l.length ≤ k) (hk : k ≤ 5000) : (Nat.ble (Sx.nMul (Sx.nAdd l.length [x].length) 1) 140737488355328 && Nat.ble (Sx.nAdd l.length [x].length) 9223372036854775807) = true := by
 simp only [Sx.nAdd, Sx.nMul, Bool.and_eq_true, Nat.ble_eq, List.length_cons, List.length_nil]; omega
theorem secH {O : OO} {Y : OY} (F : FO O) (hy : Y = yO O) {n : Int} {m : Nat → Int} (h : O.isH (AV m) = true) (hn : okN n = true) : O.isH (AV (secF Y n (AV m))) = true := by
 have e : secF Y n (AV m) = Y.cs (IntKind.i64.wrap (1048575 - n)) (AV m) := by funext i; unfold secF; rw [hn]; rfl
 rw [e]; exact csH F hy h
theorem calls_realK {I : Interp} {P : Program} {sp : FuncId → Option Sx.Spec} (hsp : ∀ f s, sp f = some s → Sx.SpecOK I P f s) (hm : P.follows .mixedOrders = true) (an : List Ann) {f : FuncId} {fn : Func} {c : Code} {N : Nat}
  (hf : P.funcs[f]? = some fn) (hb' : fn.body.isSome = true) (hc : bodyOf fn = c) (hN : fn.ntmps = N) {l : List Value} {v : Value} (hl : l.length ≤ N)
  (h : wpcI P sp N an c 0 0 (argEnv l 0) [] (retK P fn.results.toList v)) (w : World) (ha : AmbW I w := by first | assumption | exact And.intro trivial (fun _ h => h.elim)) : Calls P f l.toArray w fun e w' => e = .returned v ∧ Fr (fun _ => False) w w' :=
 calls_real hsp hm an hf hb' hc hN hl (wpcI_of h) w
def spY0 (O : OO) (Y : OY) (f : FuncId) : Option Sx.Spec := match f with
 | 30 => some (gspec [.ro .u8] (g_sumO O))
 | f => spZ0 O (zO O) f
theorem spY0_ok (I : Sx.Interp) (O : OO) (hO : O = oo) (Y : OY) (hY : Y = yO O) : ∀ f s, spY0 O Y f = some s → Sx.SpecOK I Tryd.prog f s := by
 intro f s h
 unfold spY0 at h
 split at h
 · cases h; exact ok_hSum I O hO
 ·exact spZ0_ok I O hO (zO O) rfl _ s h
def g_placed (O : OO) (Y : OY) (l : List Value) : Option (Bool × Value) := match l with
 | [.int .i64 n] => some (true, .int .i64 (IntKind.i64.wrap (1048575 - n)))
 | _ => none
set_option maxHeartbeats 4000000 in
theorem vc_placed (O : OO) (Y : OY) (n : Int) (out : Value) (F : FO O) (hy : Y = yO O)  (ho : .int .i64 (IntKind.i64.wrap (1048575 - n)) = out) :
 Value.int .i64 (IntKind.i64.wrap (iSub 1048575 n)) = out := by
 exact ho
theorem wpc_placed (O : OO) (Y : OY) (n : Int) (out : Value) (F : FO O) (hy : Y = yO O)  (ho : .int .i64 (IntKind.i64.wrap (1048575 - n)) = out) : wpcI Tryd.prog (spY0 O Y) Tryd.f21.ntmps [] (bodyOf Tryd.f21) 0 0 (argEnv [.int .i64 n] 0) [] (retK Tryd.prog Tryd.f21.results.toList out) :=
 Eq.mpr (by kernel_rfl) (vc_placed O Y n out F hy  ho)
theorem ok_placed (I : Sx.Interp) (O : OO) (hO : O = oo) (Y : OY) (hY : Y = yO O) : Sx.SpecOK I Tryd.prog 21 (Sx.vspec (g_placed O Y)) := by
 refine spec_walk (n := 1) (spY0_ok I O hO Y hY) (by kernel_rfl) [] Tryd.func21 (by kernel_rfl) (by kernel_rfl) rfl Tryd.ntmps21 (by decide) ?_ ?_
 ·intro l p v hg; unfold g_placed at hg; split at hg <;> first | rfl | cases hg
 ·intro l v hg
  unfold g_placed at hg
  split at hg
  ·rename_i n
   simp only [Option.some.injEq, Prod.mk.injEq, Bool.and_eq_true] at hg
   obtain ⟨_, rfl⟩ := hg
   exact wpc_placed O Y n  _ (fo_oo O hO) hY   rfl
  ·cases hg
def g_rplace (O : OO) (Y : OY) (l : List Value) : Option (Bool × Value) := match l with
 | [.int .i64 n] => some (true, .int .i64 (IntKind.i64.wrap (1048575 - n)))
 | _ => none
def g_come (O : OO) (Y : OY) (l : List Value) : Option (Bool × Value) := match l with
 | [.agg m, .int .i64 20, .int .i64 p] => some ((O.isH m), .agg (AV (Y.cs p m)))
 | _ => none
theorem vc_come (O : OO) (Y : OY) (p : Int) (m : Nat → Int) (s : Nat → Nat → Int) (out : Value) (F : FO O) (hy : Y = yO O) (h0 : O.isH (AV m) = true) (hs0 : s 0 = fnA (AV m)) (hs1 : ∀ r, s (r + 1) = nextS O p (20 - 1 - r) (s r)) (hs2 : s 20 = Y.cs p (AV m)) (ho : .agg (AV (Y.cs p (AV m))) = out) :
 ((Value.int .i64 0 = Value.int .i64 ((0 : Nat) : Int) ∧ Value.int .i64 20 = Value.int .i64 20 ∧ Value.int .i64 p = Value.int .i64 p ∧ Value.int .i64 20 = Value.int .i64 20 ∧ True) ∧
  AV m = AV (s 0) ∧ (zA = zA ∧ True)) ∧ If (bitP p (20 - 1 - 0)) ((Value.int .i64 (IntKind.i64.wrap (((0 : Nat) : Int) + 1)) = Value.int .i64 ((0 + 1 : Nat) : Int) ∧ Value.int .i64 20
  = Value.int .i64 20 ∧ Value.int .i64 p = Value.int .i64 p ∧ Value.int .i64 20 = Value.int .i64 20 ∧ True) ∧ AV (O.sum (flipL (s 0) (20 - 1 - 0))) = AV (s (0 + 1)) ∧ (zA = zA ∧
  True)) ((Value.int .i64 (IntKind.i64.wrap (((0 : Nat) : Int) + 1)) = Value.int .i64 ((0 + 1 : Nat) : Int) ∧ Value.int .i64 20 = Value.int .i64 20 ∧ Value.int .i64 p = Value.int .i64
  p ∧ Value.int .i64 20 = Value.int .i64 20 ∧ True) ∧ AV (s 0) = AV (s (0 + 1)) ∧ (zA = zA ∧ True)) ∧ If (bitP p (20 - 1 - 1)) ((Value.int .i64 (IntKind.i64.wrap (((1 : Nat) : Int) +
  1)) = Value.int .i64 ((1 + 1 : Nat) : Int) ∧ Value.int .i64 20 = Value.int .i64 20 ∧ Value.int .i64 p = Value.int .i64 p ∧ Value.int .i64 20 = Value.int .i64 20 ∧ True) ∧ AV (O.sum
  (flipL (s 1) (20 - 1 - 1))) = AV (s (1 + 1)) ∧ (zA = zA ∧ True)) ((Value.int .i64 (IntKind.i64.wrap (((1 : Nat) : Int) + 1)) = Value.int .i64 ((1 + 1 : Nat) : Int) ∧ Value.int .i64
  20 = Value.int .i64 20 ∧ Value.int .i64 p = Value.int .i64 p ∧ Value.int .i64 20 = Value.int .i64 20 ∧ True) ∧ AV (s 1) = AV (s (1 + 1)) ∧ (zA = zA ∧ True)) ∧ If (bitP p (20 - 1 -
  2)) ((Value.int .i64 (IntKind.i64.wrap (((2 : Nat) : Int) + 1)) = Value.int .i64 ((2 + 1 : Nat) : Int) ∧ Value.int .i64 20 = Value.int .i64 20 ∧ Value.int .i64 p = Value.int .i64 p
  ∧ Value.int .i64 20 = Value.int .i64 20 ∧ True) ∧ AV (O.sum (flipL (s 2) (20 - 1 - 2))) = AV (s (2 + 1)) ∧ (zA = zA ∧ True)) ((Value.int .i64 (IntKind.i64.wrap (((2 : Nat) : Int) +
  1)) = Value.int .i64 ((2 + 1 : Nat) : Int) ∧ Value.int .i64 20 = Value.int .i64 20 ∧ Value.int .i64 p = Value.int .i64 p ∧ Value.int .i64 20 = Value.int .i64 20 ∧ True) ∧ AV (s 2) =
  AV (s (2 + 1)) ∧ (zA = zA ∧ True)) ∧ If (bitP p (20 - 1 - 3)) ((Value.int .i64 (IntKind.i64.wrap (((3 : Nat) : Int) + 1)) = Value.int .i64 ((3 + 1 : Nat) : Int) ∧ Value.int .i64 20
  = Value.int .i64 20 ∧ Value.int .i64 p = Value.int .i64 p ∧ Value.int .i64 20 = Value.int .i64 20 ∧ True) ∧ AV (O.sum (flipL (s 3) (20 - 1 - 3))) = AV (s (3 + 1)) ∧ (zA = zA ∧
  True)) ((Value.int .i64 (IntKind.i64.wrap (((3 : Nat) : Int) + 1)) = Value.int .i64 ((3 + 1 : Nat) : Int) ∧ Value.int .i64 20 = Value.int .i64 20 ∧ Value.int .i64 p = Value.int .i64
  p ∧ Value.int .i64 20 = Value.int .i64 20 ∧ True) ∧ AV (s 3) = AV (s (3 + 1)) ∧ (zA = zA ∧ True)) ∧ If (bitP p (20 - 1 - 4)) ((Value.int .i64 (IntKind.i64.wrap (((4 : Nat) : Int) +
  1)) = Value.int .i64 ((4 + 1 : Nat) : Int) ∧ Value.int .i64 20 = Value.int .i64 20 ∧ Value.int .i64 p = Value.int .i64 p ∧ Value.int .i64 20 = Value.int .i64 20 ∧ True) ∧ AV (O.sum
  (flipL (s 4) (20 - 1 - 4))) = AV (s (4 + 1)) ∧ (zA = zA ∧ True)) ((Value.int .i64 (IntKind.i64.wrap (((4 : Nat) : Int) + 1)) = Value.int .i64 ((4 + 1 : Nat) : Int) ∧ Value.int .i64
  20 = Value.int .i64 20 ∧ Value.int .i64 p = Value.int .i64 p ∧ Value.int .i64 20 = Value.int .i64 20 ∧ True) ∧ AV (s 4) = AV (s (4 + 1)) ∧ (zA = zA ∧ True)) ∧ If (bitP p (20 - 1 -
  5)) ((Value.int .i64 (IntKind.i64.wrap (((5 : Nat) : Int) + 1)) = Value.int .i64 ((5 + 1 : Nat) : Int) ∧ Value.int .i64 20 = Value.int .i64 20 ∧ Value.int .i64 p = Value.int .i64 p
  ∧ Value.int .i64 20 = Value.int .i64 20 ∧ True) ∧ AV (O.sum (flipL (s 5) (20 - 1 - 5))) = AV (s (5 + 1)) ∧ (zA = zA ∧ True)) ((Value.int .i64 (IntKind.i64.wrap (((5 : Nat) : Int) +
  1)) = Value.int .i64 ((5 + 1 : Nat) : Int) ∧ Value.int .i64 20 = Value.int .i64 20 ∧ Value.int .i64 p = Value.int .i64 p ∧ Value.int .i64 20 = Value.int .i64 20 ∧ True) ∧ AV (s 5) =
  AV (s (5 + 1)) ∧ (zA = zA ∧ True)) ∧ If (bitP p (20 - 1 - 6)) ((Value.int .i64 (IntKind.i64.wrap (((6 : Nat) : Int) + 1)) = Value.int .i64 ((6 + 1 : Nat) : Int) ∧ Value.int .i64 20
  = Value.int .i64 20 ∧ Value.int .i64 p = Value.int .i64 p ∧ Value.int .i64 20 = Value.int .i64 20 ∧ True) ∧ AV (O.sum (flipL (s 6) (20 - 1 - 6))) = AV (s (6 + 1)) ∧ (zA = zA ∧
  True)) ((Value.int .i64 (IntKind.i64.wrap (((6 : Nat) : Int) + 1)) = Value.int .i64 ((6 + 1 : Nat) : Int) ∧ Value.int .i64 20 = Value.int .i64 20 ∧ Value.int .i64 p = Value.int .i64
  p ∧ Value.int .i64 20 = Value.int .i64 20 ∧ True) ∧ AV (s 6) = AV (s (6 + 1)) ∧ (zA = zA ∧ True)) ∧ If (bitP p (20 - 1 - 7)) ((Value.int .i64 (IntKind.i64.wrap (((7 : Nat) : Int) +
  1)) = Value.int .i64 ((7 + 1 : Nat) : Int) ∧ Value.int .i64 20 = Value.int .i64 20 ∧ Value.int .i64 p = Value.int .i64 p ∧ Value.int .i64 20 = Value.int .i64 20 ∧ True) ∧ AV (O.sum
  (flipL (s 7) (20 - 1 - 7))) = AV (s (7 + 1)) ∧ (zA = zA ∧ True)) ((Value.int .i64 (IntKind.i64.wrap (((7 : Nat) : Int) + 1)) = Value.int .i64 ((7 + 1 : Nat) : Int) ∧ Value.int .i64
  20 = Value.int .i64 20 ∧ Value.int .i64 p = Value.int .i64 p ∧ Value.int .i64 20 = Value.int .i64 20 ∧ True) ∧ AV (s 7) = AV (s (7 + 1)) ∧ (zA = zA ∧ True)) ∧ If (bitP p (20 - 1 -
  8)) ((Value.int .i64 (IntKind.i64.wrap (((8 : Nat) : Int) + 1)) = Value.int .i64 ((8 + 1 : Nat) : Int) ∧ Value.int .i64 20 = Value.int .i64 20 ∧ Value.int .i64 p = Value.int .i64 p
  ∧ Value.int .i64 20 = Value.int .i64 20 ∧ True) ∧ AV (O.sum (flipL (s 8) (20 - 1 - 8))) = AV (s (8 + 1)) ∧ (zA = zA ∧ True)) ((Value.int .i64 (IntKind.i64.wrap (((8 : Nat) : Int) +
  1)) = Value.int .i64 ((8 + 1 : Nat) : Int) ∧ Value.int .i64 20 = Value.int .i64 20 ∧ Value.int .i64 p = Value.int .i64 p ∧ Value.int .i64 20 = Value.int .i64 20 ∧ True) ∧ AV (s 8) =
  AV (s (8 + 1)) ∧ (zA = zA ∧ True)) ∧ If (bitP p (20 - 1 - 9)) ((Value.int .i64 (IntKind.i64.wrap (((9 : Nat) : Int) + 1)) = Value.int .i64 ((9 + 1 : Nat) : Int) ∧ Value.int .i64 20
  = Value.int .i64 20 ∧ Value.int .i64 p = Value.int .i64 p ∧ Value.int .i64 20 = Value.int .i64 20 ∧ True) ∧ AV (O.sum (flipL (s 9) (20 - 1 - 9))) = AV (s (9 + 1)) ∧ (zA = zA ∧
  True)) ((Value.int .i64 (IntKind.i64.wrap (((9 : Nat) : Int) + 1)) = Value.int .i64 ((9 + 1 : Nat) : Int) ∧ Value.int .i64 20 = Value.int .i64 20 ∧ Value.int .i64 p = Value.int .i64
  p ∧ Value.int .i64 20 = Value.int .i64 20 ∧ True) ∧ AV (s 9) = AV (s (9 + 1)) ∧ (zA = zA ∧ True)) ∧ If (bitP p (20 - 1 - 10)) ((Value.int .i64 (IntKind.i64.wrap (((10 : Nat) : Int)
  + 1)) = Value.int .i64 ((10 + 1 : Nat) : Int) ∧ Value.int .i64 20 = Value.int .i64 20 ∧ Value.int .i64 p = Value.int .i64 p ∧ Value.int .i64 20 = Value.int .i64 20 ∧ True) ∧ AV
  (O.sum (flipL (s 10) (20 - 1 - 10))) = AV (s (10 + 1)) ∧ (zA = zA ∧ True)) ((Value.int .i64 (IntKind.i64.wrap (((10 : Nat) : Int) + 1)) = Value.int .i64 ((10 + 1 : Nat) : Int) ∧
  Value.int .i64 20 = Value.int .i64 20 ∧ Value.int .i64 p = Value.int .i64 p ∧ Value.int .i64 20 = Value.int .i64 20 ∧ True) ∧ AV (s 10) = AV (s (10 + 1)) ∧ (zA = zA ∧ True)) ∧ If
  (bitP p (20 - 1 - 11)) ((Value.int .i64 (IntKind.i64.wrap (((11 : Nat) : Int) + 1)) = Value.int .i64 ((11 + 1 : Nat) : Int) ∧ Value.int .i64 20 = Value.int .i64 20 ∧ Value.int .i64
  p = Value.int .i64 p ∧ Value.int .i64 20 = Value.int .i64 20 ∧ True) ∧ AV (O.sum (flipL (s 11) (20 - 1 - 11))) = AV (s (11 + 1)) ∧ (zA = zA ∧ True)) ((Value.int .i64
  (IntKind.i64.wrap (((11 : Nat) : Int) + 1)) = Value.int .i64 ((11 + 1 : Nat) : Int) ∧ Value.int .i64 20 = Value.int .i64 20 ∧ Value.int .i64 p = Value.int .i64 p ∧ Value.int .i64 20
  = Value.int .i64 20 ∧ True) ∧ AV (s 11) = AV (s (11 + 1)) ∧ (zA = zA ∧ True)) ∧ If (bitP p (20 - 1 - 12)) ((Value.int .i64 (IntKind.i64.wrap (((12 : Nat) : Int) + 1)) = Value.int
  .i64 ((12 + 1 : Nat) : Int) ∧ Value.int .i64 20 = Value.int .i64 20 ∧ Value.int .i64 p = Value.int .i64 p ∧ Value.int .i64 20 = Value.int .i64 20 ∧ True) ∧ AV (O.sum (flipL (s 12)
  (20 - 1 - 12))) = AV (s (12 + 1)) ∧ (zA = zA ∧ True)) ((Value.int .i64 (IntKind.i64.wrap (((12 : Nat) : Int) + 1)) = Value.int .i64 ((12 + 1 : Nat) : Int) ∧ Value.int .i64 20 =
  Value.int .i64 20 ∧ Value.int .i64 p = Value.int .i64 p ∧ Value.int .i64 20 = Value.int .i64 20 ∧ True) ∧ AV (s 12) = AV (s (12 + 1)) ∧ (zA = zA ∧ True)) ∧ If (bitP p (20 - 1 - 13))
  ((Value.int .i64 (IntKind.i64.wrap (((13 : Nat) : Int) + 1)) = Value.int .i64 ((13 + 1 : Nat) : Int) ∧ Value.int .i64 20 = Value.int .i64 20 ∧ Value.int .i64 p = Value.int .i64 p ∧
  Value.int .i64 20 = Value.int .i64 20 ∧ True) ∧ AV (O.sum (flipL (s 13) (20 - 1 - 13))) = AV (s (13 + 1)) ∧ (zA = zA ∧ True)) ((Value.int .i64 (IntKind.i64.wrap (((13 : Nat) : Int)
  + 1)) = Value.int .i64 ((13 + 1 : Nat) : Int) ∧ Value.int .i64 20 = Value.int .i64 20 ∧ Value.int .i64 p = Value.int .i64 p ∧ Value.int .i64 20 = Value.int .i64 20 ∧ True) ∧ AV (s
  13) = AV (s (13 + 1)) ∧ (zA = zA ∧ True)) ∧ If (bitP p (20 - 1 - 14)) ((Value.int .i64 (IntKind.i64.wrap (((14 : Nat) : Int) + 1)) = Value.int .i64 ((14 + 1 : Nat) : Int) ∧
  Value.int .i64 20 = Value.int .i64 20 ∧ Value.int .i64 p = Value.int .i64 p ∧ Value.int .i64 20 = Value.int .i64 20 ∧ True) ∧ AV (O.sum (flipL (s 14) (20 - 1 - 14))) = AV (s (14 +
  1)) ∧ (zA = zA ∧ True)) ((Value.int .i64 (IntKind.i64.wrap (((14 : Nat) : Int) + 1)) = Value.int .i64 ((14 + 1 : Nat) : Int) ∧ Value.int .i64 20 = Value.int .i64 20 ∧ Value.int .i64
  p = Value.int .i64 p ∧ Value.int .i64 20 = Value.int .i64 20 ∧ True) ∧ AV (s 14) = AV (s (14 + 1)) ∧ (zA = zA ∧ True)) ∧ If (bitP p (20 - 1 - 15)) ((Value.int .i64 (IntKind.i64.wrap
  (((15 : Nat) : Int) + 1)) = Value.int .i64 ((15 + 1 : Nat) : Int) ∧ Value.int .i64 20 = Value.int .i64 20 ∧ Value.int .i64 p = Value.int .i64 p ∧ Value.int .i64 20 = Value.int .i64
  20 ∧ True) ∧ AV (O.sum (flipL (s 15) (20 - 1 - 15))) = AV (s (15 + 1)) ∧ (zA = zA ∧ True)) ((Value.int .i64 (IntKind.i64.wrap (((15 : Nat) : Int) + 1)) = Value.int .i64 ((15 + 1 :
  Nat) : Int) ∧ Value.int .i64 20 = Value.int .i64 20 ∧ Value.int .i64 p = Value.int .i64 p ∧ Value.int .i64 20 = Value.int .i64 20 ∧ True) ∧ AV (s 15) = AV (s (15 + 1)) ∧ (zA = zA ∧
  True)) ∧ If (bitP p (20 - 1 - 16)) ((Value.int .i64 (IntKind.i64.wrap (((16 : Nat) : Int) + 1)) = Value.int .i64 ((16 + 1 : Nat) : Int) ∧ Value.int .i64 20 = Value.int .i64 20 ∧
  Value.int .i64 p = Value.int .i64 p ∧ Value.int .i64 20 = Value.int .i64 20 ∧ True) ∧ AV (O.sum (flipL (s 16) (20 - 1 - 16))) = AV (s (16 + 1)) ∧ (zA = zA ∧ True)) ((Value.int .i64
  (IntKind.i64.wrap (((16 : Nat) : Int) + 1)) = Value.int .i64 ((16 + 1 : Nat) : Int) ∧ Value.int .i64 20 = Value.int .i64 20 ∧ Value.int .i64 p = Value.int .i64 p ∧ Value.int .i64 20
  = Value.int .i64 20 ∧ True) ∧ AV (s 16) = AV (s (16 + 1)) ∧ (zA = zA ∧ True)) ∧ If (bitP p (20 - 1 - 17)) ((Value.int .i64 (IntKind.i64.wrap (((17 : Nat) : Int) + 1)) = Value.int
  .i64 ((17 + 1 : Nat) : Int) ∧ Value.int .i64 20 = Value.int .i64 20 ∧ Value.int .i64 p = Value.int .i64 p ∧ Value.int .i64 20 = Value.int .i64 20 ∧ True) ∧ AV (O.sum (flipL (s 17)
  (20 - 1 - 17))) = AV (s (17 + 1)) ∧ (zA = zA ∧ True)) ((Value.int .i64 (IntKind.i64.wrap (((17 : Nat) : Int) + 1)) = Value.int .i64 ((17 + 1 : Nat) : Int) ∧ Value.int .i64 20 =
  Value.int .i64 20 ∧ Value.int .i64 p = Value.int .i64 p ∧ Value.int .i64 20 = Value.int .i64 20 ∧ True) ∧ AV (s 17) = AV (s (17 + 1)) ∧ (zA = zA ∧ True)) ∧ If (bitP p (20 - 1 - 18))
  ((Value.int .i64 (IntKind.i64.wrap (((18 : Nat) : Int) + 1)) = Value.int .i64 ((18 + 1 : Nat) : Int) ∧ Value.int .i64 20 = Value.int .i64 20 ∧ Value.int .i64 p = Value.int .i64 p ∧
  Value.int .i64 20 = Value.int .i64 20 ∧ True) ∧ AV (O.sum (flipL (s 18) (20 - 1 - 18))) = AV (s (18 + 1)) ∧ (zA = zA ∧ True)) ((Value.int .i64 (IntKind.i64.wrap (((18 : Nat) : Int)
  + 1)) = Value.int .i64 ((18 + 1 : Nat) : Int) ∧ Value.int .i64 20 = Value.int .i64 20 ∧ Value.int .i64 p = Value.int .i64 p ∧ Value.int .i64 20 = Value.int .i64 20 ∧ True) ∧ AV (s
  18) = AV (s (18 + 1)) ∧ (zA = zA ∧ True)) ∧ If (bitP p (20 - 1 - 19)) ((Value.int .i64 (IntKind.i64.wrap (((19 : Nat) : Int) + 1)) = Value.int .i64 ((19 + 1 : Nat) : Int) ∧
  Value.int .i64 20 = Value.int .i64 20 ∧ Value.int .i64 p = Value.int .i64 p ∧ Value.int .i64 20 = Value.int .i64 20 ∧ True) ∧ AV (O.sum (flipL (s 19) (20 - 1 - 19))) = AV (s (19 +
  1)) ∧ (zA = zA ∧ True)) ((Value.int .i64 (IntKind.i64.wrap (((19 : Nat) : Int) + 1)) = Value.int .i64 ((19 + 1 : Nat) : Int) ∧ Value.int .i64 20 = Value.int .i64 20 ∧ Value.int .i64
  p = Value.int .i64 p ∧ Value.int .i64 20 = Value.int .i64 20 ∧ True) ∧ AV (s 19) = AV (s (19 + 1)) ∧ (zA = zA ∧ True)) ∧ Value.agg (AV (s 20)) = out ∧ True := by
 have hAm : O.isH (Array.mk (List.map (Value.int IntKind.u8) (tabI m 32))) = true := h0
 refine ⟨⟨⟨(by kernel_rfl), rfl, rfl, rfl, trivial⟩, (by rw [hs0]; kernel_rfl), ⟨rfl, trivial⟩⟩, rnd 0 hs1 ⟨(by kernel_rfl), rfl, rfl, rfl, trivial⟩ ⟨rfl, trivial⟩, rnd 1 hs1 ⟨(by kernel_rfl), rfl, rfl, rfl, trivial⟩ ⟨rfl, trivial⟩, rnd 2 hs1 ⟨(by kernel_rfl), rfl, rfl, rfl, trivial⟩ ⟨rfl, trivial⟩, rnd 3 hs1 ⟨(by kernel_rfl), rfl, rfl, rfl, trivial⟩ ⟨rfl, trivial⟩, rnd 4 hs1 ⟨(by kernel_rfl), rfl, rfl, rfl, trivial⟩ ⟨rfl, trivial⟩, rnd 5 hs1 ⟨(by kernel_rfl), rfl, rfl, rfl, trivial⟩ ⟨rfl, trivial⟩, rnd 6 hs1 ⟨(by kernel_rfl), rfl, rfl, rfl, trivial⟩ ⟨rfl, trivial⟩, rnd 7 hs1 ⟨(by kernel_rfl), rfl, rfl, rfl, trivial⟩ ⟨rfl, trivial⟩, rnd 8 hs1 ⟨(by kernel_rfl), rfl, rfl, rfl, trivial⟩ ⟨rfl, trivial⟩, rnd 9 hs1 ⟨(by kernel_rfl), rfl, rfl, rfl, trivial⟩ ⟨rfl, trivial⟩, rnd 10 hs1 ⟨(by kernel_rfl), rfl, rfl, rfl, trivial⟩ ⟨rfl, trivial⟩, rnd 11 hs1 ⟨(by kernel_rfl), rfl, rfl, rfl, trivial⟩ ⟨rfl, trivial⟩, rnd 12 hs1 ⟨(by kernel_rfl), rfl, rfl, rfl, trivial⟩ ⟨rfl, trivial⟩, rnd 13 hs1 ⟨(by kernel_rfl), rfl, rfl, rfl, trivial⟩ ⟨rfl, trivial⟩, rnd 14 hs1 ⟨(by kernel_rfl), rfl, rfl, rfl, trivial⟩ ⟨rfl, trivial⟩, rnd 15 hs1 ⟨(by kernel_rfl), rfl, rfl, rfl, trivial⟩ ⟨rfl, trivial⟩, rnd 16 hs1 ⟨(by kernel_rfl), rfl, rfl, rfl, trivial⟩ ⟨rfl, trivial⟩, rnd 17 hs1 ⟨(by kernel_rfl), rfl, rfl, rfl, trivial⟩ ⟨rfl, trivial⟩, rnd 18 hs1 ⟨(by kernel_rfl), rfl, rfl, rfl, trivial⟩ ⟨rfl, trivial⟩, rnd 19 hs1 ⟨(by kernel_rfl), rfl, rfl, rfl, trivial⟩ ⟨rfl, trivial⟩, ?_, trivial⟩
 rw [← ho, hs2]
theorem wpc_come (O : OO) (Y : OY) (p : Int) (m : Nat → Int) (s : Nat → Nat → Int) (out : Value) (F : FO O) (hy : Y = yO O) (h0 : O.isH (AV m) = true) (hs0 : s 0 = fnA (AV m)) (hs1 : ∀ r, s (r + 1) = nextS O p (20 - 1 - r) (s r)) (hs2 : s 20 = Y.cs p (AV m)) (ho : .agg (AV (Y.cs p (AV m))) = out) : wpcI Tryd.prog (spY0 O Y) Tryd.f20.ntmps [⟨Nat, [1, 2, 3, 6, 8], [], fun B r => [(9, .v (.int .i64 (r : Int)))], fun B r => [(0, .arr 23 32 (AV (s r)))], fun _ => True, fun _ => 0, .join 21 fun r => r⟩] (bodyOf Tryd.f20) 0 0 (argEnv [.agg (AV m), .int .i64 20, .int .i64 p] 0) [] (retK Tryd.prog Tryd.f20.results.toList out) :=
 Eq.mpr (by kernel_rfl) (vc_come O Y p m s out F hy h0 hs0 hs1 hs2 ho)
theorem ok_come (I : Sx.Interp) (O : OO) (hO : O = oo) (Y : OY) (hY : Y = yO O) : Sx.SpecOK I Tryd.prog 20 (Sx.vspec (g_come O Y)) := by
 refine spec_of_callsA Tryd.func20 (by kernel_rfl) (by kernel_rfl) fun l v hg w ha => ?_
 ·skip
  unfold g_come at hg
  split at hg
  ·rename_i m p
   simp only [Option.some.injEq, Prod.mk.injEq, Bool.and_eq_true] at hg
   obtain ⟨q0, rfl⟩ := hg
   obtain ⟨m, rfl⟩ := isH_AV (by subst hO; exact q0 : isHa m = true)
   exact calls_realK (spY0_ok I O hO Y hY) (by kernel_rfl) _ Tryd.func20 (by kernel_rfl) rfl Tryd.ntmps20 (by simp) (wpc_come O Y p m (stepS O p 20 (fnA (AV m))) _ (fo_oo O hO) hY q0 (by kernel_rfl) (fun r => by kernel_rfl) (by subst hY; kernel_rfl) rfl) w
  ·cases hg
def g_to (O : OO) (Y : OY) (l : List Value) : Option (Bool × Value) := match l with
 | [.agg m, .int .i64 20, .int .i64 p] => some ((O.isH m), .agg (AV (Y.cs p m)))
 | _ => none
def g_putU (O : OO) (Y : OY) (xs : List Arg) : Option (Bool × List Ret) := match xs with
 | [.ints b, .v (.int .u64 n)] => some ((inU n 18446744073709551616) && (Nat.ble b.length 1000), [.ints 5 .u8 (b ++ O.be8 n)])
 | _ => none
def g_putH (O : OO) (Y : OY) (xs : List Arg) : Option (Bool × List Ret) := match xs with
 | [.ints b, .v (.agg ⟨[.int .u8 c0, .int .u8 c1, .int .u8 c2, .int .u8 c3, .int .u8 c4, .int .u8 c5, .int .u8 c6, .int .u8 c7, .int .u8 c8, .int .u8 c9, .int .u8 c10, .int .u8 c11, .int .u8 c12, .int .u8 c13, .int .u8 c14, .int .u8 c15, .int .u8 c16, .int .u8 c17, .int .u8 c18, .int .u8 c19, .int .u8 c20, .int .u8 c21, .int .u8 c22, .int .u8 c23, .int .u8 c24, .int .u8 c25, .int .u8 c26, .int .u8 c27, .int .u8 c28, .int .u8 c29, .int .u8 c30, .int .u8 c31]⟩)] => some ((Nat.ble b.length 1000), [.ints 5 .u8 (b ++ [c0, c1, c2, c3, c4, c5, c6, c7, c8, c9, c10, c11, c12, c13, c14, c15, c16, c17, c18, c19, c20, c21, c22, c23, c24, c25, c26, c27, c28, c29, c30, c31])])
 | _ => none
def g_keight (O : OO) (Y : OY) (ds : List Dt) : Option (Bool × List Bool × (List Bool → Post)) := match ds with
 | [.v (.int .u64 n)] => some ((inU n 18446744073709551616), [], fun bs => ⟨[.sl 0 0 8 8], [(0, .arr 91 8 ⟨(tabI (fun i => (O.be8 n).getD i 0) 8).map (Value.int .u8)⟩)]⟩)
 | _ => none
set_option maxHeartbeats 4000000 in
theorem vc_keight (O : OO) (Y : OY) (n : Int) (F : FO O) (hy : Y = yO O) (h0 : inU n 18446744073709551616 = true) (hb : O.be8 = be8Z) :
 (0 = 0 ∧ 8 = 8 ∧ 8 = 8) ∧ True ∧ Array.mk [Value.int .u8 (IntKind.u8.wrap (n.fdiv (iPow 2 56))), Value.int .u8 (IntKind.u8.wrap (n.fdiv (iPow 2 48))), Value.int .u8 (IntKind.u8.wrap
  (n.fdiv (iPow 2 40))), Value.int .u8 (IntKind.u8.wrap (n.fdiv (iPow 2 32))), Value.int .u8 (IntKind.u8.wrap (n.fdiv (iPow 2 24))), Value.int .u8 (IntKind.u8.wrap (n.fdiv (iPow 2
  16))), Value.int .u8 (IntKind.u8.wrap (n.fdiv (iPow 2 8))), Value.int .u8 (IntKind.u8.wrap (n.fdiv (iPow 2 0)))] = Array.mk (List.map (Value.int .u8) (tabI (fun (i : Nat) => (O.be8
  n).getD i 0) 8)) ∧ True := by
 refine ⟨⟨rfl, rfl, rfl⟩, trivial, ?_, trivial⟩
 rw [hb]
 kernel_rfl
theorem wpc_keight (O : OO) (Y : OY) (n : Int) (F : FO O) (hy : Y = yO O) (h0 : inU n 18446744073709551616 = true) (hb : O.be8 = be8Z) : wpcI Tryd.prog (spY0 O Y) Tryd.f37.ntmps [Ann.walk 9] (bodyOf Tryd.f37) 0 64 (envP (mks [.v] [.v (.int .u64 n)] 0).1 0) (mks [.v] [.v (.int .u64 n)] 0).2 (retP Tryd.prog Tryd.f37.results.toList 0 ((fun bs : List Bool => (⟨[.sl 0 0 8 8], [(0, .arr 91 8 ⟨(tabI (fun i => (O.be8 n).getD i 0) 8).map (Value.int .u8)⟩)]⟩ : Post)) ([] : List Bool))) :=
 Eq.mpr (by kernel_rfl) (vc_keight O Y n F hy h0 hb)
theorem ok_keight (I : Sx.Interp) (O : OO) (hO : O = oo) (Y : OY) (hY : Y = yO O) : Sx.SpecOK I Tryd.prog 37 (pspec [.v] false (g_keight O Y)) := by
 refine spec_pI (spY0_ok I O hO Y hY) (by kernel_rfl) (fun _ => [Ann.walk 9]) Tryd.func37 (by kernel_rfl) (by kernel_rfl) rfl Tryd.ntmps37 (by decide) ?_ ?_
 ·intro ds p bs F h
  unfold g_keight at h
  split at h
  ·simp only [Option.some.injEq, Prod.mk.injEq] at h
   obtain ⟨_, _, rfl⟩ := h
   kernel_rfl
  ·cases h
 ·intro ds bs F hl h
  unfold g_keight at h
  split at h
  ·simp only [Option.some.injEq, Prod.mk.injEq, Bool.and_eq_true] at h
   obtain ⟨h0, rfl, rfl⟩ := h
   exact wpc_keight O Y _ (fo_oo O hO) hY h0 (by subst hO; kernel_rfl)
  ·cases h
def spY1 (O : OO) (Y : OY) (f : FuncId) : Option Sx.Spec := match f with
 | 21 => some (Sx.vspec (g_placed O Y))
 | 20 => some (Sx.vspec (g_come O Y))
 | 37 => some (pspec [.v] false (g_keight O Y))
 | f => spY0 O Y f
theorem spY1_ok (I : Sx.Interp) (O : OO) (hO : O = oo) (Y : OY) (hY : Y = yO O) : ∀ f s, spY1 O Y f = some s → Sx.SpecOK I Tryd.prog f s := by
 intro f s h
 unfold spY1 at h
 split at h
 · cases h; exact ok_placed I O hO Y hY
 · cases h; exact ok_come I O hO Y hY
 · cases h; exact ok_keight I O hO Y hY
 ·exact spY0_ok I O hO Y hY _ s h
def g_fac (O : OO) (Y : OY) (xs : List Arg) : Option (Bool × List Ret) := match xs with
 | [.v (.string s), .ints [a, b]] => some ((inU a 18446744073709551616) && (inU b 18446744073709551616) && (Nat.ble s.size 1000), [.v (.int .u64 (Y.fac s a b))])
 | _ => none
set_option maxHeartbeats 4000000 in
theorem vc_fac (O : OO) (Y : OY) (s : ByteArray) (a b : Int) (F : FO O) (hy : Y = yO O) (h0 : inU a 18446744073709551616 = true) (h1 : inU b 18446744073709551616 = true) (h2 : Nat.ble s.size 1000 = true) :
 If (inU ([a, b].getD 0 0) 18446744073709551616) (If (inU ([a, b].getD 1 0) 18446744073709551616) (If ((tagN (ByteArray.rec (fun (data : Array UInt8) => (fun (data : Array UInt8) =>
  (fun (bs : Array UInt8) => bs.size) data) data) s) [[(O.be8 ([a, b].getD 0 0)).getD 0 0, (O.be8 ([a, b].getD 0 0)).getD 1 0, (O.be8 ([a, b].getD 0 0)).getD 2 0, (O.be8 ([a, b].getD
  0 0)).getD 3 0, (O.be8 ([a, b].getD 0 0)).getD 4 0, (O.be8 ([a, b].getD 0 0)).getD 5 0, (O.be8 ([a, b].getD 0 0)).getD 6 0, (O.be8 ([a, b].getD 0 0)).getD 7 0], [(O.be8 ([a, b].getD
  1 0)).getD 0 0, (O.be8 ([a, b].getD 1 0)).getD 1 0, (O.be8 ([a, b].getD 1 0)).getD 2 0, (O.be8 ([a, b].getD 1 0)).getD 3 0, (O.be8 ([a, b].getD 1 0)).getD 4 0, (O.be8 ([a, b].getD 1
  0)).getD 5 0, (O.be8 ([a, b].getD 1 0)).getD 6 0, (O.be8 ([a, b].getD 1 0)).getD 7 0]]).ble 1099511627776) (If (decide (O.isH (Array.mk (List.map (Value.int .u8) (tabI (O.tag s
  [[(fun (i : Nat) => (O.be8 ([a, b].getD (Int.toNat 0) 0)).getD i 0) 0, (fun (i : Nat) => (O.be8 ([a, b].getD (Int.toNat 0) 0)).getD i 0) 1, (fun (i : Nat) => (O.be8 ([a, b].getD
  (Int.toNat 0) 0)).getD i 0) 2, (fun (i : Nat) => (O.be8 ([a, b].getD (Int.toNat 0) 0)).getD i 0) 3, (fun (i : Nat) => (O.be8 ([a, b].getD (Int.toNat 0) 0)).getD i 0) 4, (fun (i :
  Nat) => (O.be8 ([a, b].getD (Int.toNat 0) 0)).getD i 0) 5, (fun (i : Nat) => (O.be8 ([a, b].getD (Int.toNat 0) 0)).getD i 0) 6, (fun (i : Nat) => (O.be8 ([a, b].getD (Int.toNat 0)
  0)).getD i 0) 7], [(fun (i : Nat) => (O.be8 ([a, b].getD (IntKind.i64.wrap (iAdd 0 1)).toNat 0)).getD i 0) 0, (fun (i : Nat) => (O.be8 ([a, b].getD (IntKind.i64.wrap (iAdd 0
  1)).toNat 0)).getD i 0) 1, (fun (i : Nat) => (O.be8 ([a, b].getD (IntKind.i64.wrap (iAdd 0 1)).toNat 0)).getD i 0) 2, (fun (i : Nat) => (O.be8 ([a, b].getD (IntKind.i64.wrap (iAdd 0
  1)).toNat 0)).getD i 0) 3, (fun (i : Nat) => (O.be8 ([a, b].getD (IntKind.i64.wrap (iAdd 0 1)).toNat 0)).getD i 0) 4, (fun (i : Nat) => (O.be8 ([a, b].getD (IntKind.i64.wrap (iAdd 0
  1)).toNat 0)).getD i 0) 5, (fun (i : Nat) => (O.be8 ([a, b].getD (IntKind.i64.wrap (iAdd 0 1)).toNat 0)).getD i 0) 6, (fun (i : Nat) => (O.be8 ([a, b].getD (IntKind.i64.wrap (iAdd 0
  1)).toNat 0)).getD i 0) 7]]) 32))) = true)) (Value.int .u64 (O.ffrom (Array.mk (List.map (Value.int .u8) (tabI (O.tag s [[(O.be8 ([a, b].getD 0 0)).getD 0 0, (O.be8 ([a, b].getD 0
  0)).getD 1 0, (O.be8 ([a, b].getD 0 0)).getD 2 0, (O.be8 ([a, b].getD 0 0)).getD 3 0, (O.be8 ([a, b].getD 0 0)).getD 4 0, (O.be8 ([a, b].getD 0 0)).getD 5 0, (O.be8 ([a, b].getD 0
  0)).getD 6 0, (O.be8 ([a, b].getD 0 0)).getD 7 0], [(O.be8 ([a, b].getD 1 0)).getD 0 0, (O.be8 ([a, b].getD 1 0)).getD 1 0, (O.be8 ([a, b].getD 1 0)).getD 2 0, (O.be8 ([a, b].getD 1
  0)).getD 3 0, (O.be8 ([a, b].getD 1 0)).getD 4 0, (O.be8 ([a, b].getD 1 0)).getD 5 0, (O.be8 ([a, b].getD 1 0)).getD 6 0, (O.be8 ([a, b].getD 1 0)).getD 7 0]]) 32)))) = Value.int
  .u64 (Y.fac s a b) ∧ True) False) False) False) False := by
 have h2' := Nat.le_of_ble_eq_true h2
 have t8 : ∀ n, [(O.be8 n).getD 0 0, (O.be8 n).getD 1 0, (O.be8 n).getD 2 0, (O.be8 n).getD 3 0, (O.be8 n).getD 4 0, (O.be8 n).getD 5 0, (O.be8 n).getD 6 0, (O.be8 n).getD 7 0] = O.be8 n := fun n => tab_self (F.b8 n)
 have e : facO O s a b = O.ffrom (AV (O.tag s [[(O.be8 a).getD 0 0, (O.be8 a).getD 1 0, (O.be8 a).getD 2 0, (O.be8 a).getD 3 0, (O.be8 a).getD 4 0, (O.be8 a).getD 5 0, (O.be8 a).getD 6 0, (O.be8 a).getD 7 0], [(O.be8 b).getD 0 0, (O.be8 b).getD 1 0, (O.be8 b).getD 2 0, (O.be8 b).getD 3 0, (O.be8 b).getD 4 0, (O.be8 b).getD 5 0, (O.be8 b).getD 6 0, (O.be8 b).getD 7 0]])) := by unfold facO; rw [t8 a, t8 b]
 refine Sx.if_true h0 (Sx.if_true h1 (Sx.if_true (tag2 (n := s.size) (by simp only [List.length_cons, List.length_nil]; omega)) (Sx.if_true (decide_eq_true (F.tH _ _)) ⟨?_, trivial⟩)))
 rw [hy, show (yO O).fac s a b = facO O s a b from rfl, e]
 rfl
theorem wpc_fac (O : OO) (Y : OY) (s : ByteArray) (a b : Int) (F : FO O) (hy : Y = yO O) (h0 : inU a 18446744073709551616 = true) (h1 : inU b 18446744073709551616 = true) (h2 : Nat.ble s.size 1000 = true) : wpcI Tryd.prog (spY1 O Y) Tryd.f26.ntmps [Ann.walk 3] (bodyOf Tryd.f26) 0 64 (envA [.v, .ro .u64] [.v (.string s), .ints [a, b]] 0) (memA [.v, .ro .u64] [.v (.string s), .ints [a, b]] 0) (retG Tryd.prog Tryd.f26.results.toList [.v (.int .u64 (Y.fac s a b))]) :=
 Eq.mpr (by kernel_rfl) (vc_fac O Y s a b F hy h0 h1 h2)
theorem ok_fac (I : Sx.Interp) (O : OO) (hO : O = oo) (Y : OY) (hY : Y = yO O) : Sx.SpecOK I Tryd.prog 26 (gspec [.v, .ro .u64] (g_fac O Y)) := by
 refine spec_gen (spY1_ok I O hO Y hY) (by kernel_rfl) [Ann.walk 3] Tryd.func26 (by kernel_rfl) (by kernel_rfl) rfl Tryd.ntmps26 (by decide) ?_ ?_
 ·intro xs p rs h; unfold g_fac at h; split at h <;> first | (simp only [Option.some.injEq, Prod.mk.injEq] at h; rw [← h.2]; simp) | cases h
 ·intro xs rs hl h
  unfold g_fac at h
  split at h
  ·simp only [Option.some.injEq, Prod.mk.injEq, Bool.and_eq_true] at h
   obtain ⟨⟨⟨h0, h1⟩, h2⟩, rfl⟩ := h
   exact wpcI_of (wpc_fac O Y _ _ _ (fo_oo O hO) hY h0 h1 h2)
  ·cases h
def g_Fac (O : OO) (Y : OY) (l : List Value) : Option (Bool × Value) := match l with
 | [.string s, .int .u64 a, .int .u64 b] => some ((inU a 18446744073709551616) && (inU b 18446744073709551616) && (Nat.ble s.size 1000), .int .u64 (Y.fac s a b))
 | _ => none