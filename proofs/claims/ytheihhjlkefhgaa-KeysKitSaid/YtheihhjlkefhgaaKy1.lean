/- Keys: the functions of the program and of the document, by the symbolic machine (printed by genky.py; VCs by VcTool). -/
import Derived.Test.YtheihhjlkefhgaaSg2
namespace Go.Proofs.Ytheihhjlkefhgaa
open Go.RowKit Go.Lib Ckp Cfd Cpd Sx
set_option linter.unusedVariables false
set_option linter.unusedSimpArgs false
set_option maxRecDepth 1000000
/-- What the walks of keys are stuck on. -/
structure OY where
  fac : ByteArray → Int → Int → Int
  cs : Int → Array Value → Nat → Int
def fnA (a : Array Value) (i : Nat) : Int := intV (a.getD i (.int .u8 0))
def facO (O : OO) (s : ByteArray) (a b : Int) : Int := O.ffrom (AV (O.tag s [O.be8 a, O.be8 b]))
/-- A secret's next: a bit of the place, the byte that holds it. -/
def bitP (p : Int) (k : Nat) : Bool := (IntKind.i64.wrap (((BitVec.ofInt 64 (p.fdiv (2 ^ k)) &&& BitVec.ofInt 64 1).toNat : Nat) : Int)) == 1
def flipL (f : Nat → Int) (k : Nat) : List Int := (tabI f 32).set (k / 8) (IntKind.u8.wrap (((BitVec.ofInt 8 (f (k / 8)) ^^^ BitVec.ofInt 8 (IntKind.u8.wrap (1 * 2 ^ (k % 8)))).toNat : Nat) : Int))
def nextS (O : OO) (p : Int) (k : Nat) (m : Nat → Int) : Nat → Int := bif bitP p k then O.sum (flipL m k) else m
def okN (n : Int) : Bool := !(bif iLt n 0 then true else iLe 1048576 n)
def secF (Y : OY) (n : Int) (a : Array Value) (i : Nat) : Int := bif okN n then Y.cs (IntKind.i64.wrap (1048575 - n)) a i else 0
def kitB : ByteArray := ByteArray.mk #[107, 105, 116]
def mixB : ByteArray := ByteArray.mk #[109, 105, 120]
def revB : ByteArray := ByteArray.mk #[114, 101, 118, 111, 107, 101]
def cel (l : List Int) (i : Nat) : Int := l.getD i 0
def kitF (O : OO) (a : Array Value) (n : Int) : Nat → Int := O.tag kitB [intsA a, [n]]
def mixO (O : OO) (Y : OY) (b p : Int) : Int := O.padd b (O.pbase (Y.fac mixB p b))
def msecO (O : OO) (Y : OY) (b p : Int) : Int := O.fadd b (Y.fac mixB p (O.pbase b))
def revO (O : OO) (Y : OY) (b p : Int) : Int := O.padd (O.pscale b (Y.fac revB b p)) (O.pscale p (Y.fac revB p b))
def perO (O : OO) (a : Array Value) : Int := O.pbase (O.ffrom a)
def rsecO (O : OO) (Y : OY) (b : Int) (a : Array Value) : Int := O.fadd (O.fmul b (Y.fac revB (O.pbase b) (perO O a))) (O.fmul (O.ffrom a) (Y.fac revB (perO O a) (O.pbase b)))
def zA : Array Value := Array.mk (List.replicate 32 (Value.int .u8 0))
theorem rnd {O : OO} {p : Int} {s : Nat → Nat → Int} (r : Nat) (hs : ∀ r, s (r + 1) = nextS O p (20 - 1 - r) (s r)) {E : Prop} (hE : E) {Z : Prop} (hZ : Z) : If (bitP p (20 - 1 - r)) (E ∧ AV (O.sum (flipL (s r) (20 - 1 - r))) = AV (s (r + 1)) ∧ Z) (E ∧ AV (s r) = AV (s (r + 1)) ∧ Z) := by
  rw [hs r]
  unfold nextS
  cases bitP p (20 - 1 - r)
  · exact ⟨hE, rfl, hZ⟩
  · exact ⟨hE, rfl, hZ⟩
/-- A secret behind r rounds out of h. -/
def stepS (O : OO) (p : Int) (h : Nat) (m : Nat → Int) : Nat → Nat → Int
  | 0 => m
  | r + 1 => nextS O p (h - 1 - r) (stepS O p h m r)
def yO (O : OO) : OY := ⟨facO O, fun p a => stepS O p 20 (fnA a) 20⟩
theorem stepH {O : OO} (F : FO O) {p : Int} {h : Nat} {m : Nat → Int} (hm : O.isH (AV m) = true) : ∀ r, O.isH (AV (stepS O p h m r)) = true
  | 0 => hm
  | r + 1 => by
    show O.isH (AV (nextS O p (h - 1 - r) (stepS O p h m r))) = true
    unfold nextS
    cases bitP p (h - 1 - r)
    · exact stepH F hm r
    · exact F.sH _
theorem csH {O : OO} {Y : OY} (F : FO O) (hy : Y = yO O) {p : Int} {m : Nat → Int} (h : O.isH (AV m) = true) : O.isH (AV (Y.cs p (AV m))) = true := by
  subst hy
  have e : AV (fnA (AV m)) = AV m := by kernel_rfl
  exact stepH F (m := fnA (AV m)) (by rw [e]; exact h) 20
theorem facU {O : OO} {Y : OY} (F : FO O) (hy : Y = yO O) (s : ByteArray) (a b : Int) : inU (Y.fac s a b) 18446744073709551616 = true := by subst hy; exact F.ffrom _
theorem secF_no {Y : OY} {n : Int} {a : Array Value} (h : okN n = false) : AV (secF Y n a) = Array.mk (List.replicate 32 (Value.int .u8 0)) := by
  have e : secF Y n a = fun _ => 0 := by funext i; unfold secF; rw [h]; rfl
  rw [e]; rfl
theorem secF_yes {Y : OY} {n : Int} {a : Array Value} (h : okN n = true) : secF Y n a = Y.cs (IntKind.i64.wrap (1048575 - n)) a := by funext i; unfold secF; rw [h]; rfl
theorem app_len {l : List Int} {x : Int} {k : Nat} (h : l.length ≤ k) : (Sx.app l [x]).length ≤ k + 1 := by simp only [Sx.app, List.length_append, List.length_cons, List.length_nil]; omega
theorem app_fit {l : List Int} {x : Int} {k : Nat} (h : l.length ≤ k) (hk : k ≤ 5000) : (Nat.ble (Sx.nMul (Sx.nAdd l.length [x].length) 1) 140737488355328 && Nat.ble (Sx.nAdd l.length [x].length) 9223372036854775807) = true := by
  simp only [Sx.nAdd, Sx.nMul, Bool.and_eq_true, Nat.ble_eq, List.length_cons, List.length_nil]; omega
theorem secH {O : OO} {Y : OY} (F : FO O) (hy : Y = yO O) {n : Int} {m : Nat → Int} (h : O.isH (AV m) = true) (hn : okN n = true) : O.isH (AV (secF Y n (AV m))) = true := by
  have e : secF Y n (AV m) = Y.cs (IntKind.i64.wrap (1048575 - n)) (AV m) := by funext i; unfold secF; rw [hn]; rfl
  rw [e]; exact csH F hy h
theorem calls_realK {I : Interp} {P : Program} {sp : FuncId → Option Sx.Spec} (hsp : ∀ f s, sp f = some s → Sx.SpecOK I P f s) (hm : P.follows .mixedOrders = true) (an : List Ann) {f : FuncId} {fn : Func} {c : Code} {N : Nat}
    (hf : P.funcs[f]? = some fn) (hb' : fn.body.isSome = true) (hc : bodyOf fn = c) (hN : fn.ntmps = N) {l : List Value} {v : Value} (hl : l.length ≤ N)
    (h : wpcI P sp N an c 0 0 (argEnv l 0) [] (retK P fn.results.toList v)) (w : World) : Calls P f l.toArray w fun e w' => e = .returned v ∧ Fr (fun _ => False) w w' :=
  calls_real hsp hm an hf hb' hc hN hl (wpcI_of h) w
def spY0 (O : OO) (Y : OY) (f : FuncId) : Option Sx.Spec := match f with
  | 62 => some (gspec [.ro .u8] (g_sumO O))
  | 101 => some (gspec [.ro .u8] (g_sumO O))
  | f => spZ0 O (zO O) f
theorem spY0_ok (I : Sx.Interp) (O : OO) (hO : O = oo) (Y : OY) (hY : Y = yO O) : ∀ f s, spY0 O Y f = some s → Sx.SpecOK I Try.prog f s := by
  intro f s h
  unfold spY0 at h
  split at h
  · cases h; exact ok_hSum I O hO
  · cases h; exact ok_rSum4 I O hO
  · exact spZ0_ok I O hO (zO O) rfl _ s h
def g_placed (O : OO) (Y : OY) (l : List Value) : Option (Bool × Value) := match l with
  | [.int .i64 n] => some (true, .int .i64 (IntKind.i64.wrap (1048575 - n)))
  | _ => none
set_option maxHeartbeats 4000000 in
theorem vc_placed (O : OO) (Y : OY) (n : Int) (out : Value) (F : FO O) (hy : Y = yO O)  (ho : .int .i64 (IntKind.i64.wrap (1048575 - n)) = out) :
  Value.int IntKind.i64 (IntKind.i64.wrap (iSub 1048575 n)) = out := by
  exact ho
theorem wpc_placed (O : OO) (Y : OY) (n : Int) (out : Value) (F : FO O) (hy : Y = yO O)  (ho : .int .i64 (IntKind.i64.wrap (1048575 - n)) = out) : wpcI Try.prog (spY0 O Y) Try.f110.ntmps [] (bodyOf Try.f110) 0 0 (argEnv [.int .i64 n] 0) [] (retK Try.prog Try.f110.results.toList out) :=
  Eq.mpr (by kernel_rfl) (vc_placed O Y n out F hy  ho)
theorem ok_placed (I : Sx.Interp) (O : OO) (hO : O = oo) (Y : OY) (hY : Y = yO O) : Sx.SpecOK I Try.prog 110 (Sx.vspec (g_placed O Y)) := by
  refine spec_walk (n := 1) (spY0_ok I O hO Y hY) (by kernel_rfl) [] Try.func110 (by kernel_rfl) (by kernel_rfl) rfl Try.ntmps110 (by decide) ?_ ?_
  · intro l p v hg; unfold g_placed at hg; split at hg <;> first | rfl | cases hg
  · intro l v hg
    unfold g_placed at hg
    split at hg
    · rename_i n
      simp only [Option.some.injEq, Prod.mk.injEq, Bool.and_eq_true] at hg
      obtain ⟨_, rfl⟩ := hg
      exact wpc_placed O Y n  _ (fo_oo O hO) hY   rfl
    · cases hg
def g_rplace (O : OO) (Y : OY) (l : List Value) : Option (Bool × Value) := match l with
  | [.int .i64 n] => some (true, .int .i64 (IntKind.i64.wrap (1048575 - n)))
  | _ => none
set_option maxHeartbeats 4000000 in
theorem vc_rplace (O : OO) (Y : OY) (n : Int) (out : Value) (F : FO O) (hy : Y = yO O)  (ho : .int .i64 (IntKind.i64.wrap (1048575 - n)) = out) :
  Value.int IntKind.i64 (IntKind.i64.wrap (iSub 1048575 n)) = out := by
  exact ho
theorem wpc_rplace (O : OO) (Y : OY) (n : Int) (out : Value) (F : FO O) (hy : Y = yO O)  (ho : .int .i64 (IntKind.i64.wrap (1048575 - n)) = out) : wpcI Try.prog (spY0 O Y) Try.f113.ntmps [] (bodyOf Try.f113) 0 0 (argEnv [.int .i64 n] 0) [] (retK Try.prog Try.f113.results.toList out) :=
  Eq.mpr (by kernel_rfl) (vc_rplace O Y n out F hy  ho)
theorem ok_rplace (I : Sx.Interp) (O : OO) (hO : O = oo) (Y : OY) (hY : Y = yO O) : Sx.SpecOK I Try.prog 113 (Sx.vspec (g_rplace O Y)) := by
  refine spec_walk (n := 1) (spY0_ok I O hO Y hY) (by kernel_rfl) [] Try.func113 (by kernel_rfl) (by kernel_rfl) rfl Try.ntmps113 (by decide) ?_ ?_
  · intro l p v hg; unfold g_rplace at hg; split at hg <;> first | rfl | cases hg
  · intro l v hg
    unfold g_rplace at hg
    split at hg
    · rename_i n
      simp only [Option.some.injEq, Prod.mk.injEq, Bool.and_eq_true] at hg
      obtain ⟨_, rfl⟩ := hg
      exact wpc_rplace O Y n  _ (fo_oo O hO) hY   rfl
    · cases hg
def g_come (O : OO) (Y : OY) (l : List Value) : Option (Bool × Value) := match l with
  | [.agg m, .int .i64 20, .int .i64 p] => some ((O.isH m), .agg (AV (Y.cs p m)))
  | _ => none
theorem vc_come (O : OO) (Y : OY) (p : Int) (m : Nat → Int) (s : Nat → Nat → Int) (out : Value) (F : FO O) (hy : Y = yO O) (h0 : O.isH (AV m) = true) (hs0 : s 0 = fnA (AV m)) (hs1 : ∀ r, s (r + 1) = nextS O p (20 - 1 - r) (s r)) (hs2 : s 20 = Y.cs p (AV m)) (ho : .agg (AV (Y.cs p (AV m))) = out) :
  ((Value.int .i64 0 = Value.int .i64 ((0 : Nat) : Int) ∧ Value.int .i64 20 = Value.int .i64 20 ∧ Value.int .i64 p = Value.int .i64 p ∧ Value.int .i64 20 = Value.int .i64 20 ∧ True) ∧ AV m = AV (s 0) ∧ (zA = zA ∧ True)) ∧
  If (bitP p (20 - 1 - 0)) ((Value.int .i64 (IntKind.i64.wrap (((0 : Nat) : Int) + 1)) = Value.int .i64 ((0 + 1 : Nat) : Int) ∧ Value.int .i64 20 = Value.int .i64 20 ∧ Value.int .i64 p = Value.int .i64 p ∧ Value.int .i64 20 = Value.int .i64 20 ∧ True) ∧ AV (O.sum (flipL (s 0) (20 - 1 - 0))) = AV (s (0 + 1)) ∧ (zA = zA ∧ True)) ((Value.int .i64 (IntKind.i64.wrap (((0 : Nat) : Int) + 1)) = Value.int .i64 ((0 + 1 : Nat) : Int) ∧ Value.int .i64 20 = Value.int .i64 20 ∧ Value.int .i64 p = Value.int .i64 p ∧ Value.int .i64 20 = Value.int .i64 20 ∧ True) ∧ AV (s 0) = AV (s (0 + 1)) ∧ (zA = zA ∧ True)) ∧
  If (bitP p (20 - 1 - 1)) ((Value.int .i64 (IntKind.i64.wrap (((1 : Nat) : Int) + 1)) = Value.int .i64 ((1 + 1 : Nat) : Int) ∧ Value.int .i64 20 = Value.int .i64 20 ∧ Value.int .i64 p = Value.int .i64 p ∧ Value.int .i64 20 = Value.int .i64 20 ∧ True) ∧ AV (O.sum (flipL (s 1) (20 - 1 - 1))) = AV (s (1 + 1)) ∧ (zA = zA ∧ True)) ((Value.int .i64 (IntKind.i64.wrap (((1 : Nat) : Int) + 1)) = Value.int .i64 ((1 + 1 : Nat) : Int) ∧ Value.int .i64 20 = Value.int .i64 20 ∧ Value.int .i64 p = Value.int .i64 p ∧ Value.int .i64 20 = Value.int .i64 20 ∧ True) ∧ AV (s 1) = AV (s (1 + 1)) ∧ (zA = zA ∧ True)) ∧
  If (bitP p (20 - 1 - 2)) ((Value.int .i64 (IntKind.i64.wrap (((2 : Nat) : Int) + 1)) = Value.int .i64 ((2 + 1 : Nat) : Int) ∧ Value.int .i64 20 = Value.int .i64 20 ∧ Value.int .i64 p = Value.int .i64 p ∧ Value.int .i64 20 = Value.int .i64 20 ∧ True) ∧ AV (O.sum (flipL (s 2) (20 - 1 - 2))) = AV (s (2 + 1)) ∧ (zA = zA ∧ True)) ((Value.int .i64 (IntKind.i64.wrap (((2 : Nat) : Int) + 1)) = Value.int .i64 ((2 + 1 : Nat) : Int) ∧ Value.int .i64 20 = Value.int .i64 20 ∧ Value.int .i64 p = Value.int .i64 p ∧ Value.int .i64 20 = Value.int .i64 20 ∧ True) ∧ AV (s 2) = AV (s (2 + 1)) ∧ (zA = zA ∧ True)) ∧
  If (bitP p (20 - 1 - 3)) ((Value.int .i64 (IntKind.i64.wrap (((3 : Nat) : Int) + 1)) = Value.int .i64 ((3 + 1 : Nat) : Int) ∧ Value.int .i64 20 = Value.int .i64 20 ∧ Value.int .i64 p = Value.int .i64 p ∧ Value.int .i64 20 = Value.int .i64 20 ∧ True) ∧ AV (O.sum (flipL (s 3) (20 - 1 - 3))) = AV (s (3 + 1)) ∧ (zA = zA ∧ True)) ((Value.int .i64 (IntKind.i64.wrap (((3 : Nat) : Int) + 1)) = Value.int .i64 ((3 + 1 : Nat) : Int) ∧ Value.int .i64 20 = Value.int .i64 20 ∧ Value.int .i64 p = Value.int .i64 p ∧ Value.int .i64 20 = Value.int .i64 20 ∧ True) ∧ AV (s 3) = AV (s (3 + 1)) ∧ (zA = zA ∧ True)) ∧
  If (bitP p (20 - 1 - 4)) ((Value.int .i64 (IntKind.i64.wrap (((4 : Nat) : Int) + 1)) = Value.int .i64 ((4 + 1 : Nat) : Int) ∧ Value.int .i64 20 = Value.int .i64 20 ∧ Value.int .i64 p = Value.int .i64 p ∧ Value.int .i64 20 = Value.int .i64 20 ∧ True) ∧ AV (O.sum (flipL (s 4) (20 - 1 - 4))) = AV (s (4 + 1)) ∧ (zA = zA ∧ True)) ((Value.int .i64 (IntKind.i64.wrap (((4 : Nat) : Int) + 1)) = Value.int .i64 ((4 + 1 : Nat) : Int) ∧ Value.int .i64 20 = Value.int .i64 20 ∧ Value.int .i64 p = Value.int .i64 p ∧ Value.int .i64 20 = Value.int .i64 20 ∧ True) ∧ AV (s 4) = AV (s (4 + 1)) ∧ (zA = zA ∧ True)) ∧
  If (bitP p (20 - 1 - 5)) ((Value.int .i64 (IntKind.i64.wrap (((5 : Nat) : Int) + 1)) = Value.int .i64 ((5 + 1 : Nat) : Int) ∧ Value.int .i64 20 = Value.int .i64 20 ∧ Value.int .i64 p = Value.int .i64 p ∧ Value.int .i64 20 = Value.int .i64 20 ∧ True) ∧ AV (O.sum (flipL (s 5) (20 - 1 - 5))) = AV (s (5 + 1)) ∧ (zA = zA ∧ True)) ((Value.int .i64 (IntKind.i64.wrap (((5 : Nat) : Int) + 1)) = Value.int .i64 ((5 + 1 : Nat) : Int) ∧ Value.int .i64 20 = Value.int .i64 20 ∧ Value.int .i64 p = Value.int .i64 p ∧ Value.int .i64 20 = Value.int .i64 20 ∧ True) ∧ AV (s 5) = AV (s (5 + 1)) ∧ (zA = zA ∧ True)) ∧
  If (bitP p (20 - 1 - 6)) ((Value.int .i64 (IntKind.i64.wrap (((6 : Nat) : Int) + 1)) = Value.int .i64 ((6 + 1 : Nat) : Int) ∧ Value.int .i64 20 = Value.int .i64 20 ∧ Value.int .i64 p = Value.int .i64 p ∧ Value.int .i64 20 = Value.int .i64 20 ∧ True) ∧ AV (O.sum (flipL (s 6) (20 - 1 - 6))) = AV (s (6 + 1)) ∧ (zA = zA ∧ True)) ((Value.int .i64 (IntKind.i64.wrap (((6 : Nat) : Int) + 1)) = Value.int .i64 ((6 + 1 : Nat) : Int) ∧ Value.int .i64 20 = Value.int .i64 20 ∧ Value.int .i64 p = Value.int .i64 p ∧ Value.int .i64 20 = Value.int .i64 20 ∧ True) ∧ AV (s 6) = AV (s (6 + 1)) ∧ (zA = zA ∧ True)) ∧
  If (bitP p (20 - 1 - 7)) ((Value.int .i64 (IntKind.i64.wrap (((7 : Nat) : Int) + 1)) = Value.int .i64 ((7 + 1 : Nat) : Int) ∧ Value.int .i64 20 = Value.int .i64 20 ∧ Value.int .i64 p = Value.int .i64 p ∧ Value.int .i64 20 = Value.int .i64 20 ∧ True) ∧ AV (O.sum (flipL (s 7) (20 - 1 - 7))) = AV (s (7 + 1)) ∧ (zA = zA ∧ True)) ((Value.int .i64 (IntKind.i64.wrap (((7 : Nat) : Int) + 1)) = Value.int .i64 ((7 + 1 : Nat) : Int) ∧ Value.int .i64 20 = Value.int .i64 20 ∧ Value.int .i64 p = Value.int .i64 p ∧ Value.int .i64 20 = Value.int .i64 20 ∧ True) ∧ AV (s 7) = AV (s (7 + 1)) ∧ (zA = zA ∧ True)) ∧
  If (bitP p (20 - 1 - 8)) ((Value.int .i64 (IntKind.i64.wrap (((8 : Nat) : Int) + 1)) = Value.int .i64 ((8 + 1 : Nat) : Int) ∧ Value.int .i64 20 = Value.int .i64 20 ∧ Value.int .i64 p = Value.int .i64 p ∧ Value.int .i64 20 = Value.int .i64 20 ∧ True) ∧ AV (O.sum (flipL (s 8) (20 - 1 - 8))) = AV (s (8 + 1)) ∧ (zA = zA ∧ True)) ((Value.int .i64 (IntKind.i64.wrap (((8 : Nat) : Int) + 1)) = Value.int .i64 ((8 + 1 : Nat) : Int) ∧ Value.int .i64 20 = Value.int .i64 20 ∧ Value.int .i64 p = Value.int .i64 p ∧ Value.int .i64 20 = Value.int .i64 20 ∧ True) ∧ AV (s 8) = AV (s (8 + 1)) ∧ (zA = zA ∧ True)) ∧
  If (bitP p (20 - 1 - 9)) ((Value.int .i64 (IntKind.i64.wrap (((9 : Nat) : Int) + 1)) = Value.int .i64 ((9 + 1 : Nat) : Int) ∧ Value.int .i64 20 = Value.int .i64 20 ∧ Value.int .i64 p = Value.int .i64 p ∧ Value.int .i64 20 = Value.int .i64 20 ∧ True) ∧ AV (O.sum (flipL (s 9) (20 - 1 - 9))) = AV (s (9 + 1)) ∧ (zA = zA ∧ True)) ((Value.int .i64 (IntKind.i64.wrap (((9 : Nat) : Int) + 1)) = Value.int .i64 ((9 + 1 : Nat) : Int) ∧ Value.int .i64 20 = Value.int .i64 20 ∧ Value.int .i64 p = Value.int .i64 p ∧ Value.int .i64 20 = Value.int .i64 20 ∧ True) ∧ AV (s 9) = AV (s (9 + 1)) ∧ (zA = zA ∧ True)) ∧
  If (bitP p (20 - 1 - 10)) ((Value.int .i64 (IntKind.i64.wrap (((10 : Nat) : Int) + 1)) = Value.int .i64 ((10 + 1 : Nat) : Int) ∧ Value.int .i64 20 = Value.int .i64 20 ∧ Value.int .i64 p = Value.int .i64 p ∧ Value.int .i64 20 = Value.int .i64 20 ∧ True) ∧ AV (O.sum (flipL (s 10) (20 - 1 - 10))) = AV (s (10 + 1)) ∧ (zA = zA ∧ True)) ((Value.int .i64 (IntKind.i64.wrap (((10 : Nat) : Int) + 1)) = Value.int .i64 ((10 + 1 : Nat) : Int) ∧ Value.int .i64 20 = Value.int .i64 20 ∧ Value.int .i64 p = Value.int .i64 p ∧ Value.int .i64 20 = Value.int .i64 20 ∧ True) ∧ AV (s 10) = AV (s (10 + 1)) ∧ (zA = zA ∧ True)) ∧
  If (bitP p (20 - 1 - 11)) ((Value.int .i64 (IntKind.i64.wrap (((11 : Nat) : Int) + 1)) = Value.int .i64 ((11 + 1 : Nat) : Int) ∧ Value.int .i64 20 = Value.int .i64 20 ∧ Value.int .i64 p = Value.int .i64 p ∧ Value.int .i64 20 = Value.int .i64 20 ∧ True) ∧ AV (O.sum (flipL (s 11) (20 - 1 - 11))) = AV (s (11 + 1)) ∧ (zA = zA ∧ True)) ((Value.int .i64 (IntKind.i64.wrap (((11 : Nat) : Int) + 1)) = Value.int .i64 ((11 + 1 : Nat) : Int) ∧ Value.int .i64 20 = Value.int .i64 20 ∧ Value.int .i64 p = Value.int .i64 p ∧ Value.int .i64 20 = Value.int .i64 20 ∧ True) ∧ AV (s 11) = AV (s (11 + 1)) ∧ (zA = zA ∧ True)) ∧
  If (bitP p (20 - 1 - 12)) ((Value.int .i64 (IntKind.i64.wrap (((12 : Nat) : Int) + 1)) = Value.int .i64 ((12 + 1 : Nat) : Int) ∧ Value.int .i64 20 = Value.int .i64 20 ∧ Value.int .i64 p = Value.int .i64 p ∧ Value.int .i64 20 = Value.int .i64 20 ∧ True) ∧ AV (O.sum (flipL (s 12) (20 - 1 - 12))) = AV (s (12 + 1)) ∧ (zA = zA ∧ True)) ((Value.int .i64 (IntKind.i64.wrap (((12 : Nat) : Int) + 1)) = Value.int .i64 ((12 + 1 : Nat) : Int) ∧ Value.int .i64 20 = Value.int .i64 20 ∧ Value.int .i64 p = Value.int .i64 p ∧ Value.int .i64 20 = Value.int .i64 20 ∧ True) ∧ AV (s 12) = AV (s (12 + 1)) ∧ (zA = zA ∧ True)) ∧
  If (bitP p (20 - 1 - 13)) ((Value.int .i64 (IntKind.i64.wrap (((13 : Nat) : Int) + 1)) = Value.int .i64 ((13 + 1 : Nat) : Int) ∧ Value.int .i64 20 = Value.int .i64 20 ∧ Value.int .i64 p = Value.int .i64 p ∧ Value.int .i64 20 = Value.int .i64 20 ∧ True) ∧ AV (O.sum (flipL (s 13) (20 - 1 - 13))) = AV (s (13 + 1)) ∧ (zA = zA ∧ True)) ((Value.int .i64 (IntKind.i64.wrap (((13 : Nat) : Int) + 1)) = Value.int .i64 ((13 + 1 : Nat) : Int) ∧ Value.int .i64 20 = Value.int .i64 20 ∧ Value.int .i64 p = Value.int .i64 p ∧ Value.int .i64 20 = Value.int .i64 20 ∧ True) ∧ AV (s 13) = AV (s (13 + 1)) ∧ (zA = zA ∧ True)) ∧
  If (bitP p (20 - 1 - 14)) ((Value.int .i64 (IntKind.i64.wrap (((14 : Nat) : Int) + 1)) = Value.int .i64 ((14 + 1 : Nat) : Int) ∧ Value.int .i64 20 = Value.int .i64 20 ∧ Value.int .i64 p = Value.int .i64 p ∧ Value.int .i64 20 = Value.int .i64 20 ∧ True) ∧ AV (O.sum (flipL (s 14) (20 - 1 - 14))) = AV (s (14 + 1)) ∧ (zA = zA ∧ True)) ((Value.int .i64 (IntKind.i64.wrap (((14 : Nat) : Int) + 1)) = Value.int .i64 ((14 + 1 : Nat) : Int) ∧ Value.int .i64 20 = Value.int .i64 20 ∧ Value.int .i64 p = Value.int .i64 p ∧ Value.int .i64 20 = Value.int .i64 20 ∧ True) ∧ AV (s 14) = AV (s (14 + 1)) ∧ (zA = zA ∧ True)) ∧
  If (bitP p (20 - 1 - 15)) ((Value.int .i64 (IntKind.i64.wrap (((15 : Nat) : Int) + 1)) = Value.int .i64 ((15 + 1 : Nat) : Int) ∧ Value.int .i64 20 = Value.int .i64 20 ∧ Value.int .i64 p = Value.int .i64 p ∧ Value.int .i64 20 = Value.int .i64 20 ∧ True) ∧ AV (O.sum (flipL (s 15) (20 - 1 - 15))) = AV (s (15 + 1)) ∧ (zA = zA ∧ True)) ((Value.int .i64 (IntKind.i64.wrap (((15 : Nat) : Int) + 1)) = Value.int .i64 ((15 + 1 : Nat) : Int) ∧ Value.int .i64 20 = Value.int .i64 20 ∧ Value.int .i64 p = Value.int .i64 p ∧ Value.int .i64 20 = Value.int .i64 20 ∧ True) ∧ AV (s 15) = AV (s (15 + 1)) ∧ (zA = zA ∧ True)) ∧
  If (bitP p (20 - 1 - 16)) ((Value.int .i64 (IntKind.i64.wrap (((16 : Nat) : Int) + 1)) = Value.int .i64 ((16 + 1 : Nat) : Int) ∧ Value.int .i64 20 = Value.int .i64 20 ∧ Value.int .i64 p = Value.int .i64 p ∧ Value.int .i64 20 = Value.int .i64 20 ∧ True) ∧ AV (O.sum (flipL (s 16) (20 - 1 - 16))) = AV (s (16 + 1)) ∧ (zA = zA ∧ True)) ((Value.int .i64 (IntKind.i64.wrap (((16 : Nat) : Int) + 1)) = Value.int .i64 ((16 + 1 : Nat) : Int) ∧ Value.int .i64 20 = Value.int .i64 20 ∧ Value.int .i64 p = Value.int .i64 p ∧ Value.int .i64 20 = Value.int .i64 20 ∧ True) ∧ AV (s 16) = AV (s (16 + 1)) ∧ (zA = zA ∧ True)) ∧
  If (bitP p (20 - 1 - 17)) ((Value.int .i64 (IntKind.i64.wrap (((17 : Nat) : Int) + 1)) = Value.int .i64 ((17 + 1 : Nat) : Int) ∧ Value.int .i64 20 = Value.int .i64 20 ∧ Value.int .i64 p = Value.int .i64 p ∧ Value.int .i64 20 = Value.int .i64 20 ∧ True) ∧ AV (O.sum (flipL (s 17) (20 - 1 - 17))) = AV (s (17 + 1)) ∧ (zA = zA ∧ True)) ((Value.int .i64 (IntKind.i64.wrap (((17 : Nat) : Int) + 1)) = Value.int .i64 ((17 + 1 : Nat) : Int) ∧ Value.int .i64 20 = Value.int .i64 20 ∧ Value.int .i64 p = Value.int .i64 p ∧ Value.int .i64 20 = Value.int .i64 20 ∧ True) ∧ AV (s 17) = AV (s (17 + 1)) ∧ (zA = zA ∧ True)) ∧
  If (bitP p (20 - 1 - 18)) ((Value.int .i64 (IntKind.i64.wrap (((18 : Nat) : Int) + 1)) = Value.int .i64 ((18 + 1 : Nat) : Int) ∧ Value.int .i64 20 = Value.int .i64 20 ∧ Value.int .i64 p = Value.int .i64 p ∧ Value.int .i64 20 = Value.int .i64 20 ∧ True) ∧ AV (O.sum (flipL (s 18) (20 - 1 - 18))) = AV (s (18 + 1)) ∧ (zA = zA ∧ True)) ((Value.int .i64 (IntKind.i64.wrap (((18 : Nat) : Int) + 1)) = Value.int .i64 ((18 + 1 : Nat) : Int) ∧ Value.int .i64 20 = Value.int .i64 20 ∧ Value.int .i64 p = Value.int .i64 p ∧ Value.int .i64 20 = Value.int .i64 20 ∧ True) ∧ AV (s 18) = AV (s (18 + 1)) ∧ (zA = zA ∧ True)) ∧
  If (bitP p (20 - 1 - 19)) ((Value.int .i64 (IntKind.i64.wrap (((19 : Nat) : Int) + 1)) = Value.int .i64 ((19 + 1 : Nat) : Int) ∧ Value.int .i64 20 = Value.int .i64 20 ∧ Value.int .i64 p = Value.int .i64 p ∧ Value.int .i64 20 = Value.int .i64 20 ∧ True) ∧ AV (O.sum (flipL (s 19) (20 - 1 - 19))) = AV (s (19 + 1)) ∧ (zA = zA ∧ True)) ((Value.int .i64 (IntKind.i64.wrap (((19 : Nat) : Int) + 1)) = Value.int .i64 ((19 + 1 : Nat) : Int) ∧ Value.int .i64 20 = Value.int .i64 20 ∧ Value.int .i64 p = Value.int .i64 p ∧ Value.int .i64 20 = Value.int .i64 20 ∧ True) ∧ AV (s 19) = AV (s (19 + 1)) ∧ (zA = zA ∧ True)) ∧
  Value.agg (AV (s 20)) = out ∧
  True := by
  have hAm : O.isH (Array.mk (List.map (Value.int IntKind.u8) (tabI m 32))) = true := h0
  refine ⟨⟨⟨(by kernel_rfl), rfl, rfl, rfl, trivial⟩, (by rw [hs0]; kernel_rfl), ⟨rfl, trivial⟩⟩, rnd 0 hs1 ⟨(by kernel_rfl), rfl, rfl, rfl, trivial⟩ ⟨rfl, trivial⟩, rnd 1 hs1 ⟨(by kernel_rfl), rfl, rfl, rfl, trivial⟩ ⟨rfl, trivial⟩, rnd 2 hs1 ⟨(by kernel_rfl), rfl, rfl, rfl, trivial⟩ ⟨rfl, trivial⟩, rnd 3 hs1 ⟨(by kernel_rfl), rfl, rfl, rfl, trivial⟩ ⟨rfl, trivial⟩, rnd 4 hs1 ⟨(by kernel_rfl), rfl, rfl, rfl, trivial⟩ ⟨rfl, trivial⟩, rnd 5 hs1 ⟨(by kernel_rfl), rfl, rfl, rfl, trivial⟩ ⟨rfl, trivial⟩, rnd 6 hs1 ⟨(by kernel_rfl), rfl, rfl, rfl, trivial⟩ ⟨rfl, trivial⟩, rnd 7 hs1 ⟨(by kernel_rfl), rfl, rfl, rfl, trivial⟩ ⟨rfl, trivial⟩, rnd 8 hs1 ⟨(by kernel_rfl), rfl, rfl, rfl, trivial⟩ ⟨rfl, trivial⟩, rnd 9 hs1 ⟨(by kernel_rfl), rfl, rfl, rfl, trivial⟩ ⟨rfl, trivial⟩, rnd 10 hs1 ⟨(by kernel_rfl), rfl, rfl, rfl, trivial⟩ ⟨rfl, trivial⟩, rnd 11 hs1 ⟨(by kernel_rfl), rfl, rfl, rfl, trivial⟩ ⟨rfl, trivial⟩, rnd 12 hs1 ⟨(by kernel_rfl), rfl, rfl, rfl, trivial⟩ ⟨rfl, trivial⟩, rnd 13 hs1 ⟨(by kernel_rfl), rfl, rfl, rfl, trivial⟩ ⟨rfl, trivial⟩, rnd 14 hs1 ⟨(by kernel_rfl), rfl, rfl, rfl, trivial⟩ ⟨rfl, trivial⟩, rnd 15 hs1 ⟨(by kernel_rfl), rfl, rfl, rfl, trivial⟩ ⟨rfl, trivial⟩, rnd 16 hs1 ⟨(by kernel_rfl), rfl, rfl, rfl, trivial⟩ ⟨rfl, trivial⟩, rnd 17 hs1 ⟨(by kernel_rfl), rfl, rfl, rfl, trivial⟩ ⟨rfl, trivial⟩, rnd 18 hs1 ⟨(by kernel_rfl), rfl, rfl, rfl, trivial⟩ ⟨rfl, trivial⟩, rnd 19 hs1 ⟨(by kernel_rfl), rfl, rfl, rfl, trivial⟩ ⟨rfl, trivial⟩, ?_, trivial⟩
  rw [← ho, hs2]
theorem wpc_come (O : OO) (Y : OY) (p : Int) (m : Nat → Int) (s : Nat → Nat → Int) (out : Value) (F : FO O) (hy : Y = yO O) (h0 : O.isH (AV m) = true) (hs0 : s 0 = fnA (AV m)) (hs1 : ∀ r, s (r + 1) = nextS O p (20 - 1 - r) (s r)) (hs2 : s 20 = Y.cs p (AV m)) (ho : .agg (AV (Y.cs p (AV m))) = out) : wpcI Try.prog (spY0 O Y) Try.f109.ntmps [⟨Nat, [1, 2, 3, 6, 8], [], fun B r => [(9, .v (.int .i64 (r : Int)))], fun B r => [(0, .arr 27 32 (AV (s r)))], fun _ => True, fun _ => 0, .join 21 fun r => r⟩] (bodyOf Try.f109) 0 0 (argEnv [.agg (AV m), .int .i64 20, .int .i64 p] 0) [] (retK Try.prog Try.f109.results.toList out) :=
  Eq.mpr (by kernel_rfl) (vc_come O Y p m s out F hy h0 hs0 hs1 hs2 ho)
theorem ok_come (I : Sx.Interp) (O : OO) (hO : O = oo) (Y : OY) (hY : Y = yO O) : Sx.SpecOK I Try.prog 109 (Sx.vspec (g_come O Y)) := by
  refine spec_of_calls Try.func109 (by kernel_rfl) (by kernel_rfl) fun l v hg w => ?_
  · skip
    unfold g_come at hg
    split at hg
    · rename_i m p
      simp only [Option.some.injEq, Prod.mk.injEq, Bool.and_eq_true] at hg
      obtain ⟨q0, rfl⟩ := hg
      obtain ⟨m, rfl⟩ := isH_AV (by subst hO; exact q0 : isHa m = true)
      exact calls_realK (spY0_ok I O hO Y hY) (by kernel_rfl) _ Try.func109 (by kernel_rfl) rfl Try.ntmps109 (by simp) (wpc_come O Y p m (stepS O p 20 (fnA (AV m))) _ (fo_oo O hO) hY q0 (by kernel_rfl) (fun r => by kernel_rfl) (by subst hY; kernel_rfl) rfl) w
    · cases hg
def g_to (O : OO) (Y : OY) (l : List Value) : Option (Bool × Value) := match l with
  | [.agg m, .int .i64 20, .int .i64 p] => some ((O.isH m), .agg (AV (Y.cs p m)))
  | _ => none
theorem vc_to (O : OO) (Y : OY) (p : Int) (m : Nat → Int) (s : Nat → Nat → Int) (out : Value) (F : FO O) (hy : Y = yO O) (h0 : O.isH (AV m) = true) (hs0 : s 0 = fnA (AV m)) (hs1 : ∀ r, s (r + 1) = nextS O p (20 - 1 - r) (s r)) (hs2 : s 20 = Y.cs p (AV m)) (ho : .agg (AV (Y.cs p (AV m))) = out) :
  ((Value.int .i64 (IntKind.i64.wrap (20 - 1)) = Value.int .i64 (19 - ((0 : Nat) : Int)) ∧ Value.int .i64 20 = Value.int .i64 20 ∧ Value.int .i64 p = Value.int .i64 p ∧ True) ∧ AV m = AV (s 0) ∧ (zA = zA ∧ AV m = AV m ∧ True)) ∧
  If (bitP p (20 - 1 - 0)) ((Value.int .i64 (IntKind.i64.wrap (19 - ((0 : Nat) : Int) - 1)) = Value.int .i64 (19 - ((0 + 1 : Nat) : Int)) ∧ Value.int .i64 20 = Value.int .i64 20 ∧ Value.int .i64 p = Value.int .i64 p ∧ True) ∧ AV (O.sum (flipL (s 0) (20 - 1 - 0))) = AV (s (0 + 1)) ∧ (zA = zA ∧ AV m = AV m ∧ True)) ((Value.int .i64 (IntKind.i64.wrap (19 - ((0 : Nat) : Int) - 1)) = Value.int .i64 (19 - ((0 + 1 : Nat) : Int)) ∧ Value.int .i64 20 = Value.int .i64 20 ∧ Value.int .i64 p = Value.int .i64 p ∧ True) ∧ AV (s 0) = AV (s (0 + 1)) ∧ (zA = zA ∧ AV m = AV m ∧ True)) ∧
  If (bitP p (20 - 1 - 1)) ((Value.int .i64 (IntKind.i64.wrap (19 - ((1 : Nat) : Int) - 1)) = Value.int .i64 (19 - ((1 + 1 : Nat) : Int)) ∧ Value.int .i64 20 = Value.int .i64 20 ∧ Value.int .i64 p = Value.int .i64 p ∧ True) ∧ AV (O.sum (flipL (s 1) (20 - 1 - 1))) = AV (s (1 + 1)) ∧ (zA = zA ∧ AV m = AV m ∧ True)) ((Value.int .i64 (IntKind.i64.wrap (19 - ((1 : Nat) : Int) - 1)) = Value.int .i64 (19 - ((1 + 1 : Nat) : Int)) ∧ Value.int .i64 20 = Value.int .i64 20 ∧ Value.int .i64 p = Value.int .i64 p ∧ True) ∧ AV (s 1) = AV (s (1 + 1)) ∧ (zA = zA ∧ AV m = AV m ∧ True)) ∧
  If (bitP p (20 - 1 - 2)) ((Value.int .i64 (IntKind.i64.wrap (19 - ((2 : Nat) : Int) - 1)) = Value.int .i64 (19 - ((2 + 1 : Nat) : Int)) ∧ Value.int .i64 20 = Value.int .i64 20 ∧ Value.int .i64 p = Value.int .i64 p ∧ True) ∧ AV (O.sum (flipL (s 2) (20 - 1 - 2))) = AV (s (2 + 1)) ∧ (zA = zA ∧ AV m = AV m ∧ True)) ((Value.int .i64 (IntKind.i64.wrap (19 - ((2 : Nat) : Int) - 1)) = Value.int .i64 (19 - ((2 + 1 : Nat) : Int)) ∧ Value.int .i64 20 = Value.int .i64 20 ∧ Value.int .i64 p = Value.int .i64 p ∧ True) ∧ AV (s 2) = AV (s (2 + 1)) ∧ (zA = zA ∧ AV m = AV m ∧ True)) ∧
  If (bitP p (20 - 1 - 3)) ((Value.int .i64 (IntKind.i64.wrap (19 - ((3 : Nat) : Int) - 1)) = Value.int .i64 (19 - ((3 + 1 : Nat) : Int)) ∧ Value.int .i64 20 = Value.int .i64 20 ∧ Value.int .i64 p = Value.int .i64 p ∧ True) ∧ AV (O.sum (flipL (s 3) (20 - 1 - 3))) = AV (s (3 + 1)) ∧ (zA = zA ∧ AV m = AV m ∧ True)) ((Value.int .i64 (IntKind.i64.wrap (19 - ((3 : Nat) : Int) - 1)) = Value.int .i64 (19 - ((3 + 1 : Nat) : Int)) ∧ Value.int .i64 20 = Value.int .i64 20 ∧ Value.int .i64 p = Value.int .i64 p ∧ True) ∧ AV (s 3) = AV (s (3 + 1)) ∧ (zA = zA ∧ AV m = AV m ∧ True)) ∧
  If (bitP p (20 - 1 - 4)) ((Value.int .i64 (IntKind.i64.wrap (19 - ((4 : Nat) : Int) - 1)) = Value.int .i64 (19 - ((4 + 1 : Nat) : Int)) ∧ Value.int .i64 20 = Value.int .i64 20 ∧ Value.int .i64 p = Value.int .i64 p ∧ True) ∧ AV (O.sum (flipL (s 4) (20 - 1 - 4))) = AV (s (4 + 1)) ∧ (zA = zA ∧ AV m = AV m ∧ True)) ((Value.int .i64 (IntKind.i64.wrap (19 - ((4 : Nat) : Int) - 1)) = Value.int .i64 (19 - ((4 + 1 : Nat) : Int)) ∧ Value.int .i64 20 = Value.int .i64 20 ∧ Value.int .i64 p = Value.int .i64 p ∧ True) ∧ AV (s 4) = AV (s (4 + 1)) ∧ (zA = zA ∧ AV m = AV m ∧ True)) ∧
  If (bitP p (20 - 1 - 5)) ((Value.int .i64 (IntKind.i64.wrap (19 - ((5 : Nat) : Int) - 1)) = Value.int .i64 (19 - ((5 + 1 : Nat) : Int)) ∧ Value.int .i64 20 = Value.int .i64 20 ∧ Value.int .i64 p = Value.int .i64 p ∧ True) ∧ AV (O.sum (flipL (s 5) (20 - 1 - 5))) = AV (s (5 + 1)) ∧ (zA = zA ∧ AV m = AV m ∧ True)) ((Value.int .i64 (IntKind.i64.wrap (19 - ((5 : Nat) : Int) - 1)) = Value.int .i64 (19 - ((5 + 1 : Nat) : Int)) ∧ Value.int .i64 20 = Value.int .i64 20 ∧ Value.int .i64 p = Value.int .i64 p ∧ True) ∧ AV (s 5) = AV (s (5 + 1)) ∧ (zA = zA ∧ AV m = AV m ∧ True)) ∧
  If (bitP p (20 - 1 - 6)) ((Value.int .i64 (IntKind.i64.wrap (19 - ((6 : Nat) : Int) - 1)) = Value.int .i64 (19 - ((6 + 1 : Nat) : Int)) ∧ Value.int .i64 20 = Value.int .i64 20 ∧ Value.int .i64 p = Value.int .i64 p ∧ True) ∧ AV (O.sum (flipL (s 6) (20 - 1 - 6))) = AV (s (6 + 1)) ∧ (zA = zA ∧ AV m = AV m ∧ True)) ((Value.int .i64 (IntKind.i64.wrap (19 - ((6 : Nat) : Int) - 1)) = Value.int .i64 (19 - ((6 + 1 : Nat) : Int)) ∧ Value.int .i64 20 = Value.int .i64 20 ∧ Value.int .i64 p = Value.int .i64 p ∧ True) ∧ AV (s 6) = AV (s (6 + 1)) ∧ (zA = zA ∧ AV m = AV m ∧ True)) ∧
  If (bitP p (20 - 1 - 7)) ((Value.int .i64 (IntKind.i64.wrap (19 - ((7 : Nat) : Int) - 1)) = Value.int .i64 (19 - ((7 + 1 : Nat) : Int)) ∧ Value.int .i64 20 = Value.int .i64 20 ∧ Value.int .i64 p = Value.int .i64 p ∧ True) ∧ AV (O.sum (flipL (s 7) (20 - 1 - 7))) = AV (s (7 + 1)) ∧ (zA = zA ∧ AV m = AV m ∧ True)) ((Value.int .i64 (IntKind.i64.wrap (19 - ((7 : Nat) : Int) - 1)) = Value.int .i64 (19 - ((7 + 1 : Nat) : Int)) ∧ Value.int .i64 20 = Value.int .i64 20 ∧ Value.int .i64 p = Value.int .i64 p ∧ True) ∧ AV (s 7) = AV (s (7 + 1)) ∧ (zA = zA ∧ AV m = AV m ∧ True)) ∧
  If (bitP p (20 - 1 - 8)) ((Value.int .i64 (IntKind.i64.wrap (19 - ((8 : Nat) : Int) - 1)) = Value.int .i64 (19 - ((8 + 1 : Nat) : Int)) ∧ Value.int .i64 20 = Value.int .i64 20 ∧ Value.int .i64 p = Value.int .i64 p ∧ True) ∧ AV (O.sum (flipL (s 8) (20 - 1 - 8))) = AV (s (8 + 1)) ∧ (zA = zA ∧ AV m = AV m ∧ True)) ((Value.int .i64 (IntKind.i64.wrap (19 - ((8 : Nat) : Int) - 1)) = Value.int .i64 (19 - ((8 + 1 : Nat) : Int)) ∧ Value.int .i64 20 = Value.int .i64 20 ∧ Value.int .i64 p = Value.int .i64 p ∧ True) ∧ AV (s 8) = AV (s (8 + 1)) ∧ (zA = zA ∧ AV m = AV m ∧ True)) ∧
  If (bitP p (20 - 1 - 9)) ((Value.int .i64 (IntKind.i64.wrap (19 - ((9 : Nat) : Int) - 1)) = Value.int .i64 (19 - ((9 + 1 : Nat) : Int)) ∧ Value.int .i64 20 = Value.int .i64 20 ∧ Value.int .i64 p = Value.int .i64 p ∧ True) ∧ AV (O.sum (flipL (s 9) (20 - 1 - 9))) = AV (s (9 + 1)) ∧ (zA = zA ∧ AV m = AV m ∧ True)) ((Value.int .i64 (IntKind.i64.wrap (19 - ((9 : Nat) : Int) - 1)) = Value.int .i64 (19 - ((9 + 1 : Nat) : Int)) ∧ Value.int .i64 20 = Value.int .i64 20 ∧ Value.int .i64 p = Value.int .i64 p ∧ True) ∧ AV (s 9) = AV (s (9 + 1)) ∧ (zA = zA ∧ AV m = AV m ∧ True)) ∧
  If (bitP p (20 - 1 - 10)) ((Value.int .i64 (IntKind.i64.wrap (19 - ((10 : Nat) : Int) - 1)) = Value.int .i64 (19 - ((10 + 1 : Nat) : Int)) ∧ Value.int .i64 20 = Value.int .i64 20 ∧ Value.int .i64 p = Value.int .i64 p ∧ True) ∧ AV (O.sum (flipL (s 10) (20 - 1 - 10))) = AV (s (10 + 1)) ∧ (zA = zA ∧ AV m = AV m ∧ True)) ((Value.int .i64 (IntKind.i64.wrap (19 - ((10 : Nat) : Int) - 1)) = Value.int .i64 (19 - ((10 + 1 : Nat) : Int)) ∧ Value.int .i64 20 = Value.int .i64 20 ∧ Value.int .i64 p = Value.int .i64 p ∧ True) ∧ AV (s 10) = AV (s (10 + 1)) ∧ (zA = zA ∧ AV m = AV m ∧ True)) ∧
  If (bitP p (20 - 1 - 11)) ((Value.int .i64 (IntKind.i64.wrap (19 - ((11 : Nat) : Int) - 1)) = Value.int .i64 (19 - ((11 + 1 : Nat) : Int)) ∧ Value.int .i64 20 = Value.int .i64 20 ∧ Value.int .i64 p = Value.int .i64 p ∧ True) ∧ AV (O.sum (flipL (s 11) (20 - 1 - 11))) = AV (s (11 + 1)) ∧ (zA = zA ∧ AV m = AV m ∧ True)) ((Value.int .i64 (IntKind.i64.wrap (19 - ((11 : Nat) : Int) - 1)) = Value.int .i64 (19 - ((11 + 1 : Nat) : Int)) ∧ Value.int .i64 20 = Value.int .i64 20 ∧ Value.int .i64 p = Value.int .i64 p ∧ True) ∧ AV (s 11) = AV (s (11 + 1)) ∧ (zA = zA ∧ AV m = AV m ∧ True)) ∧
  If (bitP p (20 - 1 - 12)) ((Value.int .i64 (IntKind.i64.wrap (19 - ((12 : Nat) : Int) - 1)) = Value.int .i64 (19 - ((12 + 1 : Nat) : Int)) ∧ Value.int .i64 20 = Value.int .i64 20 ∧ Value.int .i64 p = Value.int .i64 p ∧ True) ∧ AV (O.sum (flipL (s 12) (20 - 1 - 12))) = AV (s (12 + 1)) ∧ (zA = zA ∧ AV m = AV m ∧ True)) ((Value.int .i64 (IntKind.i64.wrap (19 - ((12 : Nat) : Int) - 1)) = Value.int .i64 (19 - ((12 + 1 : Nat) : Int)) ∧ Value.int .i64 20 = Value.int .i64 20 ∧ Value.int .i64 p = Value.int .i64 p ∧ True) ∧ AV (s 12) = AV (s (12 + 1)) ∧ (zA = zA ∧ AV m = AV m ∧ True)) ∧
  If (bitP p (20 - 1 - 13)) ((Value.int .i64 (IntKind.i64.wrap (19 - ((13 : Nat) : Int) - 1)) = Value.int .i64 (19 - ((13 + 1 : Nat) : Int)) ∧ Value.int .i64 20 = Value.int .i64 20 ∧ Value.int .i64 p = Value.int .i64 p ∧ True) ∧ AV (O.sum (flipL (s 13) (20 - 1 - 13))) = AV (s (13 + 1)) ∧ (zA = zA ∧ AV m = AV m ∧ True)) ((Value.int .i64 (IntKind.i64.wrap (19 - ((13 : Nat) : Int) - 1)) = Value.int .i64 (19 - ((13 + 1 : Nat) : Int)) ∧ Value.int .i64 20 = Value.int .i64 20 ∧ Value.int .i64 p = Value.int .i64 p ∧ True) ∧ AV (s 13) = AV (s (13 + 1)) ∧ (zA = zA ∧ AV m = AV m ∧ True)) ∧
  If (bitP p (20 - 1 - 14)) ((Value.int .i64 (IntKind.i64.wrap (19 - ((14 : Nat) : Int) - 1)) = Value.int .i64 (19 - ((14 + 1 : Nat) : Int)) ∧ Value.int .i64 20 = Value.int .i64 20 ∧ Value.int .i64 p = Value.int .i64 p ∧ True) ∧ AV (O.sum (flipL (s 14) (20 - 1 - 14))) = AV (s (14 + 1)) ∧ (zA = zA ∧ AV m = AV m ∧ True)) ((Value.int .i64 (IntKind.i64.wrap (19 - ((14 : Nat) : Int) - 1)) = Value.int .i64 (19 - ((14 + 1 : Nat) : Int)) ∧ Value.int .i64 20 = Value.int .i64 20 ∧ Value.int .i64 p = Value.int .i64 p ∧ True) ∧ AV (s 14) = AV (s (14 + 1)) ∧ (zA = zA ∧ AV m = AV m ∧ True)) ∧
  If (bitP p (20 - 1 - 15)) ((Value.int .i64 (IntKind.i64.wrap (19 - ((15 : Nat) : Int) - 1)) = Value.int .i64 (19 - ((15 + 1 : Nat) : Int)) ∧ Value.int .i64 20 = Value.int .i64 20 ∧ Value.int .i64 p = Value.int .i64 p ∧ True) ∧ AV (O.sum (flipL (s 15) (20 - 1 - 15))) = AV (s (15 + 1)) ∧ (zA = zA ∧ AV m = AV m ∧ True)) ((Value.int .i64 (IntKind.i64.wrap (19 - ((15 : Nat) : Int) - 1)) = Value.int .i64 (19 - ((15 + 1 : Nat) : Int)) ∧ Value.int .i64 20 = Value.int .i64 20 ∧ Value.int .i64 p = Value.int .i64 p ∧ True) ∧ AV (s 15) = AV (s (15 + 1)) ∧ (zA = zA ∧ AV m = AV m ∧ True)) ∧
  If (bitP p (20 - 1 - 16)) ((Value.int .i64 (IntKind.i64.wrap (19 - ((16 : Nat) : Int) - 1)) = Value.int .i64 (19 - ((16 + 1 : Nat) : Int)) ∧ Value.int .i64 20 = Value.int .i64 20 ∧ Value.int .i64 p = Value.int .i64 p ∧ True) ∧ AV (O.sum (flipL (s 16) (20 - 1 - 16))) = AV (s (16 + 1)) ∧ (zA = zA ∧ AV m = AV m ∧ True)) ((Value.int .i64 (IntKind.i64.wrap (19 - ((16 : Nat) : Int) - 1)) = Value.int .i64 (19 - ((16 + 1 : Nat) : Int)) ∧ Value.int .i64 20 = Value.int .i64 20 ∧ Value.int .i64 p = Value.int .i64 p ∧ True) ∧ AV (s 16) = AV (s (16 + 1)) ∧ (zA = zA ∧ AV m = AV m ∧ True)) ∧
  If (bitP p (20 - 1 - 17)) ((Value.int .i64 (IntKind.i64.wrap (19 - ((17 : Nat) : Int) - 1)) = Value.int .i64 (19 - ((17 + 1 : Nat) : Int)) ∧ Value.int .i64 20 = Value.int .i64 20 ∧ Value.int .i64 p = Value.int .i64 p ∧ True) ∧ AV (O.sum (flipL (s 17) (20 - 1 - 17))) = AV (s (17 + 1)) ∧ (zA = zA ∧ AV m = AV m ∧ True)) ((Value.int .i64 (IntKind.i64.wrap (19 - ((17 : Nat) : Int) - 1)) = Value.int .i64 (19 - ((17 + 1 : Nat) : Int)) ∧ Value.int .i64 20 = Value.int .i64 20 ∧ Value.int .i64 p = Value.int .i64 p ∧ True) ∧ AV (s 17) = AV (s (17 + 1)) ∧ (zA = zA ∧ AV m = AV m ∧ True)) ∧
  If (bitP p (20 - 1 - 18)) ((Value.int .i64 (IntKind.i64.wrap (19 - ((18 : Nat) : Int) - 1)) = Value.int .i64 (19 - ((18 + 1 : Nat) : Int)) ∧ Value.int .i64 20 = Value.int .i64 20 ∧ Value.int .i64 p = Value.int .i64 p ∧ True) ∧ AV (O.sum (flipL (s 18) (20 - 1 - 18))) = AV (s (18 + 1)) ∧ (zA = zA ∧ AV m = AV m ∧ True)) ((Value.int .i64 (IntKind.i64.wrap (19 - ((18 : Nat) : Int) - 1)) = Value.int .i64 (19 - ((18 + 1 : Nat) : Int)) ∧ Value.int .i64 20 = Value.int .i64 20 ∧ Value.int .i64 p = Value.int .i64 p ∧ True) ∧ AV (s 18) = AV (s (18 + 1)) ∧ (zA = zA ∧ AV m = AV m ∧ True)) ∧
  If (bitP p (20 - 1 - 19)) ((Value.int .i64 (IntKind.i64.wrap (19 - ((19 : Nat) : Int) - 1)) = Value.int .i64 (19 - ((19 + 1 : Nat) : Int)) ∧ Value.int .i64 20 = Value.int .i64 20 ∧ Value.int .i64 p = Value.int .i64 p ∧ True) ∧ AV (O.sum (flipL (s 19) (20 - 1 - 19))) = AV (s (19 + 1)) ∧ (zA = zA ∧ AV m = AV m ∧ True)) ((Value.int .i64 (IntKind.i64.wrap (19 - ((19 : Nat) : Int) - 1)) = Value.int .i64 (19 - ((19 + 1 : Nat) : Int)) ∧ Value.int .i64 20 = Value.int .i64 20 ∧ Value.int .i64 p = Value.int .i64 p ∧ True) ∧ AV (s 19) = AV (s (19 + 1)) ∧ (zA = zA ∧ AV m = AV m ∧ True)) ∧
  Value.agg (AV (s 20)) = out ∧
  True := by
  have hAm : O.isH (Array.mk (List.map (Value.int IntKind.u8) (tabI m 32))) = true := h0
  refine ⟨⟨⟨(by kernel_rfl), rfl, rfl, trivial⟩, (by rw [hs0]; kernel_rfl), ⟨rfl, rfl, trivial⟩⟩, rnd 0 hs1 ⟨(by kernel_rfl), rfl, rfl, trivial⟩ ⟨rfl, rfl, trivial⟩, rnd 1 hs1 ⟨(by kernel_rfl), rfl, rfl, trivial⟩ ⟨rfl, rfl, trivial⟩, rnd 2 hs1 ⟨(by kernel_rfl), rfl, rfl, trivial⟩ ⟨rfl, rfl, trivial⟩, rnd 3 hs1 ⟨(by kernel_rfl), rfl, rfl, trivial⟩ ⟨rfl, rfl, trivial⟩, rnd 4 hs1 ⟨(by kernel_rfl), rfl, rfl, trivial⟩ ⟨rfl, rfl, trivial⟩, rnd 5 hs1 ⟨(by kernel_rfl), rfl, rfl, trivial⟩ ⟨rfl, rfl, trivial⟩, rnd 6 hs1 ⟨(by kernel_rfl), rfl, rfl, trivial⟩ ⟨rfl, rfl, trivial⟩, rnd 7 hs1 ⟨(by kernel_rfl), rfl, rfl, trivial⟩ ⟨rfl, rfl, trivial⟩, rnd 8 hs1 ⟨(by kernel_rfl), rfl, rfl, trivial⟩ ⟨rfl, rfl, trivial⟩, rnd 9 hs1 ⟨(by kernel_rfl), rfl, rfl, trivial⟩ ⟨rfl, rfl, trivial⟩, rnd 10 hs1 ⟨(by kernel_rfl), rfl, rfl, trivial⟩ ⟨rfl, rfl, trivial⟩, rnd 11 hs1 ⟨(by kernel_rfl), rfl, rfl, trivial⟩ ⟨rfl, rfl, trivial⟩, rnd 12 hs1 ⟨(by kernel_rfl), rfl, rfl, trivial⟩ ⟨rfl, rfl, trivial⟩, rnd 13 hs1 ⟨(by kernel_rfl), rfl, rfl, trivial⟩ ⟨rfl, rfl, trivial⟩, rnd 14 hs1 ⟨(by kernel_rfl), rfl, rfl, trivial⟩ ⟨rfl, rfl, trivial⟩, rnd 15 hs1 ⟨(by kernel_rfl), rfl, rfl, trivial⟩ ⟨rfl, rfl, trivial⟩, rnd 16 hs1 ⟨(by kernel_rfl), rfl, rfl, trivial⟩ ⟨rfl, rfl, trivial⟩, rnd 17 hs1 ⟨(by kernel_rfl), rfl, rfl, trivial⟩ ⟨rfl, rfl, trivial⟩, rnd 18 hs1 ⟨(by kernel_rfl), rfl, rfl, trivial⟩ ⟨rfl, rfl, trivial⟩, rnd 19 hs1 ⟨(by kernel_rfl), rfl, rfl, trivial⟩ ⟨rfl, rfl, trivial⟩, ?_, trivial⟩
  rw [← ho, hs2]
theorem wpc_to (O : OO) (Y : OY) (p : Int) (m : Nat → Int) (s : Nat → Nat → Int) (out : Value) (F : FO O) (hy : Y = yO O) (h0 : O.isH (AV m) = true) (hs0 : s 0 = fnA (AV m)) (hs1 : ∀ r, s (r + 1) = nextS O p (20 - 1 - r) (s r)) (hs2 : s 20 = Y.cs p (AV m)) (ho : .agg (AV (Y.cs p (AV m))) = out) : wpcI Try.prog (spY0 O Y) Try.f112.ntmps [⟨Nat, [1, 2, 3, 6, 7], [], fun B r => [(8, .v (.int .i64 (19 - (r : Int))))], fun B r => [(192, .arr 27 32 (AV (s r)))], fun _ => True, fun _ => 0, .join 21 fun r => r⟩] (bodyOf Try.f112) 0 0 (argEnv [.agg (AV m), .int .i64 20, .int .i64 p] 0) [] (retK Try.prog Try.f112.results.toList out) :=
  Eq.mpr (by kernel_rfl) (vc_to O Y p m s out F hy h0 hs0 hs1 hs2 ho)
theorem ok_to (I : Sx.Interp) (O : OO) (hO : O = oo) (Y : OY) (hY : Y = yO O) : Sx.SpecOK I Try.prog 112 (Sx.vspec (g_to O Y)) := by
  refine spec_of_calls Try.func112 (by kernel_rfl) (by kernel_rfl) fun l v hg w => ?_
  · skip
    unfold g_to at hg
    split at hg
    · rename_i m p
      simp only [Option.some.injEq, Prod.mk.injEq, Bool.and_eq_true] at hg
      obtain ⟨q0, rfl⟩ := hg
      obtain ⟨m, rfl⟩ := isH_AV (by subst hO; exact q0 : isHa m = true)
      exact calls_realK (spY0_ok I O hO Y hY) (by kernel_rfl) _ Try.func112 (by kernel_rfl) rfl Try.ntmps112 (by simp) (wpc_to O Y p m (stepS O p 20 (fnA (AV m))) _ (fo_oo O hO) hY q0 (by kernel_rfl) (fun r => by kernel_rfl) (by subst hY; kernel_rfl) rfl) w
    · cases hg
def g_putU (O : OO) (Y : OY) (xs : List Arg) : Option (Bool × List Ret) := match xs with
  | [.ints b, .v (.int .u64 n)] => some ((inU n 18446744073709551616) && (Nat.ble b.length 1000), [.ints 5 .u8 (b ++ O.be8 n)])
  | _ => none
set_option maxHeartbeats 4000000 in
theorem vc_putU (O : OO) (Y : OY) (b : List Int) (n : Int) (F : FO O) (hy : Y = yO O) (h0 : inU n 18446744073709551616 = true) (h1 : Nat.ble b.length 1000 = true) (hb : O.be8 = be8Z) :
  If ((nMul (nAdd 0 b.length) 1).ble 140737488355328 && (nAdd 0 b.length).ble 9223372036854775807)
    (If
      ((nMul (nAdd (app [] b).length [IntKind.u8.wrap (n.fdiv (iPow 2 56))].length) 1).ble 140737488355328 &&
        (nAdd (app [] b).length [IntKind.u8.wrap (n.fdiv (iPow 2 56))].length).ble 9223372036854775807)
      (If
        ((nMul (nAdd (app (app [] b) [IntKind.u8.wrap (n.fdiv (iPow 2 56))]).length [IntKind.u8.wrap (n.fdiv (iPow 2 48))].length) 1).ble 140737488355328 &&
          (nAdd (app (app [] b) [IntKind.u8.wrap (n.fdiv (iPow 2 56))]).length [IntKind.u8.wrap (n.fdiv (iPow 2 48))].length).ble 9223372036854775807)
        (If
          ((nMul (nAdd (app (app (app [] b) [IntKind.u8.wrap (n.fdiv (iPow 2 56))]) [IntKind.u8.wrap (n.fdiv (iPow 2 48))]).length [IntKind.u8.wrap (n.fdiv (iPow 2 40))].length) 1).ble
              140737488355328 &&
            (nAdd (app (app (app [] b) [IntKind.u8.wrap (n.fdiv (iPow 2 56))]) [IntKind.u8.wrap (n.fdiv (iPow 2 48))]).length [IntKind.u8.wrap (n.fdiv (iPow 2 40))].length).ble 9223372036854775807)
          (If
            ((nMul
                    (nAdd (app (app (app (app [] b) [IntKind.u8.wrap (n.fdiv (iPow 2 56))]) [IntKind.u8.wrap (n.fdiv (iPow 2 48))]) [IntKind.u8.wrap (n.fdiv (iPow 2 40))]).length
                      [IntKind.u8.wrap (n.fdiv (iPow 2 32))].length)
                    1).ble
                140737488355328 &&
              (nAdd (app (app (app (app [] b) [IntKind.u8.wrap (n.fdiv (iPow 2 56))]) [IntKind.u8.wrap (n.fdiv (iPow 2 48))]) [IntKind.u8.wrap (n.fdiv (iPow 2 40))]).length
                    [IntKind.u8.wrap (n.fdiv (iPow 2 32))].length).ble
                9223372036854775807)
            (If
              ((nMul
                      (nAdd
                        (app (app (app (app (app [] b) [IntKind.u8.wrap (n.fdiv (iPow 2 56))]) [IntKind.u8.wrap (n.fdiv (iPow 2 48))]) [IntKind.u8.wrap (n.fdiv (iPow 2 40))])
                            [IntKind.u8.wrap (n.fdiv (iPow 2 32))]).length
                        [IntKind.u8.wrap (n.fdiv (iPow 2 24))].length)
                      1).ble
                  140737488355328 &&
                (nAdd
                      (app (app (app (app (app [] b) [IntKind.u8.wrap (n.fdiv (iPow 2 56))]) [IntKind.u8.wrap (n.fdiv (iPow 2 48))]) [IntKind.u8.wrap (n.fdiv (iPow 2 40))])
                          [IntKind.u8.wrap (n.fdiv (iPow 2 32))]).length
                      [IntKind.u8.wrap (n.fdiv (iPow 2 24))].length).ble
                  9223372036854775807)
              (If
                ((nMul
                        (nAdd
                          (app
                              (app (app (app (app (app [] b) [IntKind.u8.wrap (n.fdiv (iPow 2 56))]) [IntKind.u8.wrap (n.fdiv (iPow 2 48))]) [IntKind.u8.wrap (n.fdiv (iPow 2 40))])
                                [IntKind.u8.wrap (n.fdiv (iPow 2 32))])
                              [IntKind.u8.wrap (n.fdiv (iPow 2 24))]).length
                          [IntKind.u8.wrap (n.fdiv (iPow 2 16))].length)
                        1).ble
                    140737488355328 &&
                  (nAdd
                        (app
                            (app (app (app (app (app [] b) [IntKind.u8.wrap (n.fdiv (iPow 2 56))]) [IntKind.u8.wrap (n.fdiv (iPow 2 48))]) [IntKind.u8.wrap (n.fdiv (iPow 2 40))])
                              [IntKind.u8.wrap (n.fdiv (iPow 2 32))])
                            [IntKind.u8.wrap (n.fdiv (iPow 2 24))]).length
                        [IntKind.u8.wrap (n.fdiv (iPow 2 16))].length).ble
                    9223372036854775807)
                (If
                  ((nMul
                          (nAdd
                            (app
                                (app
                                  (app (app (app (app (app [] b) [IntKind.u8.wrap (n.fdiv (iPow 2 56))]) [IntKind.u8.wrap (n.fdiv (iPow 2 48))]) [IntKind.u8.wrap (n.fdiv (iPow 2 40))])
                                    [IntKind.u8.wrap (n.fdiv (iPow 2 32))])
                                  [IntKind.u8.wrap (n.fdiv (iPow 2 24))])
                                [IntKind.u8.wrap (n.fdiv (iPow 2 16))]).length
                            [IntKind.u8.wrap (n.fdiv (iPow 2 8))].length)
                          1).ble
                      140737488355328 &&
                    (nAdd
                          (app
                              (app
                                (app (app (app (app (app [] b) [IntKind.u8.wrap (n.fdiv (iPow 2 56))]) [IntKind.u8.wrap (n.fdiv (iPow 2 48))]) [IntKind.u8.wrap (n.fdiv (iPow 2 40))])
                                  [IntKind.u8.wrap (n.fdiv (iPow 2 32))])
                                [IntKind.u8.wrap (n.fdiv (iPow 2 24))])
                              [IntKind.u8.wrap (n.fdiv (iPow 2 16))]).length
                          [IntKind.u8.wrap (n.fdiv (iPow 2 8))].length).ble
                      9223372036854775807)
                  (If
                    ((nMul
                            (nAdd
                              (app
                                  (app
                                    (app
                                      (app (app (app (app (app [] b) [IntKind.u8.wrap (n.fdiv (iPow 2 56))]) [IntKind.u8.wrap (n.fdiv (iPow 2 48))]) [IntKind.u8.wrap (n.fdiv (iPow 2 40))])
                                        [IntKind.u8.wrap (n.fdiv (iPow 2 32))])
                                      [IntKind.u8.wrap (n.fdiv (iPow 2 24))])
                                    [IntKind.u8.wrap (n.fdiv (iPow 2 16))])
                                  [IntKind.u8.wrap (n.fdiv (iPow 2 8))]).length
                              [IntKind.u8.wrap (n.fdiv (iPow 2 0))].length)
                            1).ble
                        140737488355328 &&
                      (nAdd
                            (app
                                (app
                                  (app
                                    (app (app (app (app (app [] b) [IntKind.u8.wrap (n.fdiv (iPow 2 56))]) [IntKind.u8.wrap (n.fdiv (iPow 2 48))]) [IntKind.u8.wrap (n.fdiv (iPow 2 40))])
                                      [IntKind.u8.wrap (n.fdiv (iPow 2 32))])
                                    [IntKind.u8.wrap (n.fdiv (iPow 2 24))])
                                  [IntKind.u8.wrap (n.fdiv (iPow 2 16))])
                                [IntKind.u8.wrap (n.fdiv (iPow 2 8))]).length
                            [IntKind.u8.wrap (n.fdiv (iPow 2 0))].length).ble
                        9223372036854775807)
                    (EqI
                        (app
                          (app
                            (app
                              (app
                                (app (app (app (app (app [] b) [IntKind.u8.wrap (n.fdiv (iPow 2 56))]) [IntKind.u8.wrap (n.fdiv (iPow 2 48))]) [IntKind.u8.wrap (n.fdiv (iPow 2 40))])
                                  [IntKind.u8.wrap (n.fdiv (iPow 2 32))])
                                [IntKind.u8.wrap (n.fdiv (iPow 2 24))])
                              [IntKind.u8.wrap (n.fdiv (iPow 2 16))])
                            [IntKind.u8.wrap (n.fdiv (iPow 2 8))])
                          [IntKind.u8.wrap (n.fdiv (iPow 2 0))])
                        (app b (O.be8 n)) ∧
                      True)
                    False)
                  False)
                False)
              False)
            False)
          False)
        False)
      False)
    False := by
  have h1' := Nat.le_of_ble_eq_true h1
  repeat (refine Sx.if_true (by simp only [Sx.app, Sx.nAdd, Sx.nMul, Bool.and_eq_true, Nat.ble_eq, List.length_append, List.length_cons, List.length_nil]; omega) ?_)
  refine ⟨?_, trivial⟩
  rw [hb]
  simp [Sx.app, Sx.EqI, be8Z, beZ, Sx.iPow]
theorem wpc_putU (O : OO) (Y : OY) (b : List Int) (n : Int) (F : FO O) (hy : Y = yO O) (h0 : inU n 18446744073709551616 = true) (h1 : Nat.ble b.length 1000 = true) (hb : O.be8 = be8Z) : wpcI Try.prog (spY0 O Y) Try.f115.ntmps [Ann.walk 9] (bodyOf Try.f115) 0 64 (envA [.ro .u8, .v] [.ints b, .v (.int .u64 n)] 0) (memA [.ro .u8, .v] [.ints b, .v (.int .u64 n)] 0) (retG Try.prog Try.f115.results.toList [.ints 5 .u8 (b ++ O.be8 n)]) :=
  Eq.mpr (by kernel_rfl) (vc_putU O Y b n F hy h0 h1 hb)
theorem ok_putU (I : Sx.Interp) (O : OO) (hO : O = oo) (Y : OY) (hY : Y = yO O) : Sx.SpecOK I Try.prog 115 (gspec [.ro .u8, .v] (g_putU O Y)) := by
  refine spec_gen (spY0_ok I O hO Y hY) (by kernel_rfl) [Ann.walk 9] Try.func115 (by kernel_rfl) (by kernel_rfl) rfl Try.ntmps115 (by decide) ?_ ?_
  · intro xs p rs h; unfold g_putU at h; split at h <;> first | (simp only [Option.some.injEq, Prod.mk.injEq] at h; rw [← h.2]; simp) | cases h
  · intro xs rs hl h
    unfold g_putU at h
    split at h
    · simp only [Option.some.injEq, Prod.mk.injEq, Bool.and_eq_true] at h
      obtain ⟨⟨h0, h1⟩, rfl⟩ := h
      exact wpcI_of (wpc_putU O Y _ _ (fo_oo O hO) hY h0 h1 (by subst hO; kernel_rfl))
    · cases h
def g_putH (O : OO) (Y : OY) (xs : List Arg) : Option (Bool × List Ret) := match xs with
  | [.ints b, .v (.agg ⟨[.int .u8 c0, .int .u8 c1, .int .u8 c2, .int .u8 c3, .int .u8 c4, .int .u8 c5, .int .u8 c6, .int .u8 c7, .int .u8 c8, .int .u8 c9, .int .u8 c10, .int .u8 c11, .int .u8 c12, .int .u8 c13, .int .u8 c14, .int .u8 c15, .int .u8 c16, .int .u8 c17, .int .u8 c18, .int .u8 c19, .int .u8 c20, .int .u8 c21, .int .u8 c22, .int .u8 c23, .int .u8 c24, .int .u8 c25, .int .u8 c26, .int .u8 c27, .int .u8 c28, .int .u8 c29, .int .u8 c30, .int .u8 c31]⟩)] => some ((Nat.ble b.length 1000), [.ints 5 .u8 (b ++ [c0, c1, c2, c3, c4, c5, c6, c7, c8, c9, c10, c11, c12, c13, c14, c15, c16, c17, c18, c19, c20, c21, c22, c23, c24, c25, c26, c27, c28, c29, c30, c31])])
  | _ => none
set_option maxHeartbeats 4000000 in
theorem vc_putH (O : OO) (Y : OY) (b : List Int) (c0 c1 c2 c3 c4 c5 c6 c7 c8 c9 c10 c11 c12 c13 c14 c15 c16 c17 c18 c19 c20 c21 c22 c23 c24 c25 c26 c27 c28 c29 c30 c31 : Int) (F : FO O) (hy : Y = yO O) (h1 : Nat.ble b.length 1000 = true) :
  If ((nMul (nAdd 0 b.length) 1).ble 140737488355328 && (nAdd 0 b.length).ble 9223372036854775807)
    (((Value.int IntKind.i64 0 = Value.int IntKind.i64 (iOf 0) ∧ True) ∧
        EqI (app [] b) (app b []) ∧
          Array.mk
                [Value.int IntKind.u8 c0, Value.int IntKind.u8 c1, Value.int IntKind.u8 c2, Value.int IntKind.u8 c3, Value.int IntKind.u8 c4, Value.int IntKind.u8 c5, Value.int IntKind.u8 c6,
                  Value.int IntKind.u8 c7, Value.int IntKind.u8 c8, Value.int IntKind.u8 c9, Value.int IntKind.u8 c10, Value.int IntKind.u8 c11, Value.int IntKind.u8 c12, Value.int IntKind.u8 c13,
                  Value.int IntKind.u8 c14, Value.int IntKind.u8 c15, Value.int IntKind.u8 c16, Value.int IntKind.u8 c17, Value.int IntKind.u8 c18, Value.int IntKind.u8 c19, Value.int IntKind.u8 c20,
                  Value.int IntKind.u8 c21, Value.int IntKind.u8 c22, Value.int IntKind.u8 c23, Value.int IntKind.u8 c24, Value.int IntKind.u8 c25, Value.int IntKind.u8 c26, Value.int IntKind.u8 c27,
                  Value.int IntKind.u8 c28, Value.int IntKind.u8 c29, Value.int IntKind.u8 c30, Value.int IntKind.u8 c31] =
              Array.mk
                [Value.int IntKind.u8 c0, Value.int IntKind.u8 c1, Value.int IntKind.u8 c2, Value.int IntKind.u8 c3, Value.int IntKind.u8 c4, Value.int IntKind.u8 c5, Value.int IntKind.u8 c6,
                  Value.int IntKind.u8 c7, Value.int IntKind.u8 c8, Value.int IntKind.u8 c9, Value.int IntKind.u8 c10, Value.int IntKind.u8 c11, Value.int IntKind.u8 c12, Value.int IntKind.u8 c13,
                  Value.int IntKind.u8 c14, Value.int IntKind.u8 c15, Value.int IntKind.u8 c16, Value.int IntKind.u8 c17, Value.int IntKind.u8 c18, Value.int IntKind.u8 c19, Value.int IntKind.u8 c20,
                  Value.int IntKind.u8 c21, Value.int IntKind.u8 c22, Value.int IntKind.u8 c23, Value.int IntKind.u8 c24, Value.int IntKind.u8 c25, Value.int IntKind.u8 c26, Value.int IntKind.u8 c27,
                  Value.int IntKind.u8 c28, Value.int IntKind.u8 c29, Value.int IntKind.u8 c30, Value.int IntKind.u8 c31] ∧
            True) ∧
      If ((nMul (nAdd (app b []).length [c0].length) 1).ble 140737488355328 && (nAdd (app b []).length [c0].length).ble 9223372036854775807)
          ((Value.int IntKind.i64 (IntKind.i64.wrap (iAdd (iOf 0) 1)) = Value.int IntKind.i64 (iOf 1) ∧ True) ∧
            EqI (app (app b []) [c0]) (app b [c0]) ∧
              Array.mk
                    [Value.int IntKind.u8 c0, Value.int IntKind.u8 c1, Value.int IntKind.u8 c2, Value.int IntKind.u8 c3, Value.int IntKind.u8 c4, Value.int IntKind.u8 c5, Value.int IntKind.u8 c6,
                      Value.int IntKind.u8 c7, Value.int IntKind.u8 c8, Value.int IntKind.u8 c9, Value.int IntKind.u8 c10, Value.int IntKind.u8 c11, Value.int IntKind.u8 c12, Value.int IntKind.u8 c13,
                      Value.int IntKind.u8 c14, Value.int IntKind.u8 c15, Value.int IntKind.u8 c16, Value.int IntKind.u8 c17, Value.int IntKind.u8 c18, Value.int IntKind.u8 c19,
                      Value.int IntKind.u8 c20, Value.int IntKind.u8 c21, Value.int IntKind.u8 c22, Value.int IntKind.u8 c23, Value.int IntKind.u8 c24, Value.int IntKind.u8 c25,
                      Value.int IntKind.u8 c26, Value.int IntKind.u8 c27, Value.int IntKind.u8 c28, Value.int IntKind.u8 c29, Value.int IntKind.u8 c30, Value.int IntKind.u8 c31] =
                  Array.mk
                    [Value.int IntKind.u8 c0, Value.int IntKind.u8 c1, Value.int IntKind.u8 c2, Value.int IntKind.u8 c3, Value.int IntKind.u8 c4, Value.int IntKind.u8 c5, Value.int IntKind.u8 c6,
                      Value.int IntKind.u8 c7, Value.int IntKind.u8 c8, Value.int IntKind.u8 c9, Value.int IntKind.u8 c10, Value.int IntKind.u8 c11, Value.int IntKind.u8 c12, Value.int IntKind.u8 c13,
                      Value.int IntKind.u8 c14, Value.int IntKind.u8 c15, Value.int IntKind.u8 c16, Value.int IntKind.u8 c17, Value.int IntKind.u8 c18, Value.int IntKind.u8 c19,
                      Value.int IntKind.u8 c20, Value.int IntKind.u8 c21, Value.int IntKind.u8 c22, Value.int IntKind.u8 c23, Value.int IntKind.u8 c24, Value.int IntKind.u8 c25,
                      Value.int IntKind.u8 c26, Value.int IntKind.u8 c27, Value.int IntKind.u8 c28, Value.int IntKind.u8 c29, Value.int IntKind.u8 c30, Value.int IntKind.u8 c31] ∧
                True)
          False ∧
        If ((nMul (nAdd (app b [c0]).length [c1].length) 1).ble 140737488355328 && (nAdd (app b [c0]).length [c1].length).ble 9223372036854775807)
            ((Value.int IntKind.i64 (IntKind.i64.wrap (iAdd (iOf 1) 1)) = Value.int IntKind.i64 (iOf 2) ∧ True) ∧
              EqI (app (app b [c0]) [c1]) (app b [c0, c1]) ∧
                Array.mk
                      [Value.int IntKind.u8 c0, Value.int IntKind.u8 c1, Value.int IntKind.u8 c2, Value.int IntKind.u8 c3, Value.int IntKind.u8 c4, Value.int IntKind.u8 c5, Value.int IntKind.u8 c6,
                        Value.int IntKind.u8 c7, Value.int IntKind.u8 c8, Value.int IntKind.u8 c9, Value.int IntKind.u8 c10, Value.int IntKind.u8 c11, Value.int IntKind.u8 c12, Value.int IntKind.u8 c13,
                        Value.int IntKind.u8 c14, Value.int IntKind.u8 c15, Value.int IntKind.u8 c16, Value.int IntKind.u8 c17, Value.int IntKind.u8 c18, Value.int IntKind.u8 c19,
                        Value.int IntKind.u8 c20, Value.int IntKind.u8 c21, Value.int IntKind.u8 c22, Value.int IntKind.u8 c23, Value.int IntKind.u8 c24, Value.int IntKind.u8 c25,
                        Value.int IntKind.u8 c26, Value.int IntKind.u8 c27, Value.int IntKind.u8 c28, Value.int IntKind.u8 c29, Value.int IntKind.u8 c30, Value.int IntKind.u8 c31] =
                    Array.mk
                      [Value.int IntKind.u8 c0, Value.int IntKind.u8 c1, Value.int IntKind.u8 c2, Value.int IntKind.u8 c3, Value.int IntKind.u8 c4, Value.int IntKind.u8 c5, Value.int IntKind.u8 c6,
                        Value.int IntKind.u8 c7, Value.int IntKind.u8 c8, Value.int IntKind.u8 c9, Value.int IntKind.u8 c10, Value.int IntKind.u8 c11, Value.int IntKind.u8 c12, Value.int IntKind.u8 c13,
                        Value.int IntKind.u8 c14, Value.int IntKind.u8 c15, Value.int IntKind.u8 c16, Value.int IntKind.u8 c17, Value.int IntKind.u8 c18, Value.int IntKind.u8 c19,
                        Value.int IntKind.u8 c20, Value.int IntKind.u8 c21, Value.int IntKind.u8 c22, Value.int IntKind.u8 c23, Value.int IntKind.u8 c24, Value.int IntKind.u8 c25,
                        Value.int IntKind.u8 c26, Value.int IntKind.u8 c27, Value.int IntKind.u8 c28, Value.int IntKind.u8 c29, Value.int IntKind.u8 c30, Value.int IntKind.u8 c31] ∧
                  True)
            False ∧
          If ((nMul (nAdd (app b [c0, c1]).length [c2].length) 1).ble 140737488355328 && (nAdd (app b [c0, c1]).length [c2].length).ble 9223372036854775807)
              ((Value.int IntKind.i64 (IntKind.i64.wrap (iAdd (iOf 2) 1)) = Value.int IntKind.i64 (iOf 3) ∧ True) ∧
                EqI (app (app b [c0, c1]) [c2]) (app b [c0, c1, c2]) ∧
                  Array.mk
                        [Value.int IntKind.u8 c0, Value.int IntKind.u8 c1, Value.int IntKind.u8 c2, Value.int IntKind.u8 c3, Value.int IntKind.u8 c4, Value.int IntKind.u8 c5, Value.int IntKind.u8 c6,
                          Value.int IntKind.u8 c7, Value.int IntKind.u8 c8, Value.int IntKind.u8 c9, Value.int IntKind.u8 c10, Value.int IntKind.u8 c11, Value.int IntKind.u8 c12,
                          Value.int IntKind.u8 c13, Value.int IntKind.u8 c14, Value.int IntKind.u8 c15, Value.int IntKind.u8 c16, Value.int IntKind.u8 c17, Value.int IntKind.u8 c18,
                          Value.int IntKind.u8 c19, Value.int IntKind.u8 c20, Value.int IntKind.u8 c21, Value.int IntKind.u8 c22, Value.int IntKind.u8 c23, Value.int IntKind.u8 c24,
                          Value.int IntKind.u8 c25, Value.int IntKind.u8 c26, Value.int IntKind.u8 c27, Value.int IntKind.u8 c28, Value.int IntKind.u8 c29, Value.int IntKind.u8 c30,
                          Value.int IntKind.u8 c31] =
                      Array.mk
                        [Value.int IntKind.u8 c0, Value.int IntKind.u8 c1, Value.int IntKind.u8 c2, Value.int IntKind.u8 c3, Value.int IntKind.u8 c4, Value.int IntKind.u8 c5, Value.int IntKind.u8 c6,
                          Value.int IntKind.u8 c7, Value.int IntKind.u8 c8, Value.int IntKind.u8 c9, Value.int IntKind.u8 c10, Value.int IntKind.u8 c11, Value.int IntKind.u8 c12,
                          Value.int IntKind.u8 c13, Value.int IntKind.u8 c14, Value.int IntKind.u8 c15, Value.int IntKind.u8 c16, Value.int IntKind.u8 c17, Value.int IntKind.u8 c18,
                          Value.int IntKind.u8 c19, Value.int IntKind.u8 c20, Value.int IntKind.u8 c21, Value.int IntKind.u8 c22, Value.int IntKind.u8 c23, Value.int IntKind.u8 c24,
                          Value.int IntKind.u8 c25, Value.int IntKind.u8 c26, Value.int IntKind.u8 c27, Value.int IntKind.u8 c28, Value.int IntKind.u8 c29, Value.int IntKind.u8 c30,
                          Value.int IntKind.u8 c31] ∧
                    True)
              False ∧
            If ((nMul (nAdd (app b [c0, c1, c2]).length [c3].length) 1).ble 140737488355328 && (nAdd (app b [c0, c1, c2]).length [c3].length).ble 9223372036854775807)
                ((Value.int IntKind.i64 (IntKind.i64.wrap (iAdd (iOf 3) 1)) = Value.int IntKind.i64 (iOf 4) ∧ True) ∧
                  EqI (app (app b [c0, c1, c2]) [c3]) (app b [c0, c1, c2, c3]) ∧
                    Array.mk
                          [Value.int IntKind.u8 c0, Value.int IntKind.u8 c1, Value.int IntKind.u8 c2, Value.int IntKind.u8 c3, Value.int IntKind.u8 c4, Value.int IntKind.u8 c5, Value.int IntKind.u8 c6,
                            Value.int IntKind.u8 c7, Value.int IntKind.u8 c8, Value.int IntKind.u8 c9, Value.int IntKind.u8 c10, Value.int IntKind.u8 c11, Value.int IntKind.u8 c12,
                            Value.int IntKind.u8 c13, Value.int IntKind.u8 c14, Value.int IntKind.u8 c15, Value.int IntKind.u8 c16, Value.int IntKind.u8 c17, Value.int IntKind.u8 c18,
                            Value.int IntKind.u8 c19, Value.int IntKind.u8 c20, Value.int IntKind.u8 c21, Value.int IntKind.u8 c22, Value.int IntKind.u8 c23, Value.int IntKind.u8 c24,
                            Value.int IntKind.u8 c25, Value.int IntKind.u8 c26, Value.int IntKind.u8 c27, Value.int IntKind.u8 c28, Value.int IntKind.u8 c29, Value.int IntKind.u8 c30,
                            Value.int IntKind.u8 c31] =
                        Array.mk
                          [Value.int IntKind.u8 c0, Value.int IntKind.u8 c1, Value.int IntKind.u8 c2, Value.int IntKind.u8 c3, Value.int IntKind.u8 c4, Value.int IntKind.u8 c5, Value.int IntKind.u8 c6,
                            Value.int IntKind.u8 c7, Value.int IntKind.u8 c8, Value.int IntKind.u8 c9, Value.int IntKind.u8 c10, Value.int IntKind.u8 c11, Value.int IntKind.u8 c12,
                            Value.int IntKind.u8 c13, Value.int IntKind.u8 c14, Value.int IntKind.u8 c15, Value.int IntKind.u8 c16, Value.int IntKind.u8 c17, Value.int IntKind.u8 c18,
                            Value.int IntKind.u8 c19, Value.int IntKind.u8 c20, Value.int IntKind.u8 c21, Value.int IntKind.u8 c22, Value.int IntKind.u8 c23, Value.int IntKind.u8 c24,
                            Value.int IntKind.u8 c25, Value.int IntKind.u8 c26, Value.int IntKind.u8 c27, Value.int IntKind.u8 c28, Value.int IntKind.u8 c29, Value.int IntKind.u8 c30,
                            Value.int IntKind.u8 c31] ∧
                      True)
                False ∧
              If ((nMul (nAdd (app b [c0, c1, c2, c3]).length [c4].length) 1).ble 140737488355328 && (nAdd (app b [c0, c1, c2, c3]).length [c4].length).ble 9223372036854775807)
                  ((Value.int IntKind.i64 (IntKind.i64.wrap (iAdd (iOf 4) 1)) = Value.int IntKind.i64 (iOf 5) ∧ True) ∧
                    EqI (app (app b [c0, c1, c2, c3]) [c4]) (app b [c0, c1, c2, c3, c4]) ∧
                      Array.mk
                            [Value.int IntKind.u8 c0, Value.int IntKind.u8 c1, Value.int IntKind.u8 c2, Value.int IntKind.u8 c3, Value.int IntKind.u8 c4, Value.int IntKind.u8 c5,
                              Value.int IntKind.u8 c6, Value.int IntKind.u8 c7, Value.int IntKind.u8 c8, Value.int IntKind.u8 c9, Value.int IntKind.u8 c10, Value.int IntKind.u8 c11,
                              Value.int IntKind.u8 c12, Value.int IntKind.u8 c13, Value.int IntKind.u8 c14, Value.int IntKind.u8 c15, Value.int IntKind.u8 c16, Value.int IntKind.u8 c17,
                              Value.int IntKind.u8 c18, Value.int IntKind.u8 c19, Value.int IntKind.u8 c20, Value.int IntKind.u8 c21, Value.int IntKind.u8 c22, Value.int IntKind.u8 c23,
                              Value.int IntKind.u8 c24, Value.int IntKind.u8 c25, Value.int IntKind.u8 c26, Value.int IntKind.u8 c27, Value.int IntKind.u8 c28, Value.int IntKind.u8 c29,
                              Value.int IntKind.u8 c30, Value.int IntKind.u8 c31] =
                          Array.mk
                            [Value.int IntKind.u8 c0, Value.int IntKind.u8 c1, Value.int IntKind.u8 c2, Value.int IntKind.u8 c3, Value.int IntKind.u8 c4, Value.int IntKind.u8 c5,
                              Value.int IntKind.u8 c6, Value.int IntKind.u8 c7, Value.int IntKind.u8 c8, Value.int IntKind.u8 c9, Value.int IntKind.u8 c10, Value.int IntKind.u8 c11,
                              Value.int IntKind.u8 c12, Value.int IntKind.u8 c13, Value.int IntKind.u8 c14, Value.int IntKind.u8 c15, Value.int IntKind.u8 c16, Value.int IntKind.u8 c17,
                              Value.int IntKind.u8 c18, Value.int IntKind.u8 c19, Value.int IntKind.u8 c20, Value.int IntKind.u8 c21, Value.int IntKind.u8 c22, Value.int IntKind.u8 c23,
                              Value.int IntKind.u8 c24, Value.int IntKind.u8 c25, Value.int IntKind.u8 c26, Value.int IntKind.u8 c27, Value.int IntKind.u8 c28, Value.int IntKind.u8 c29,
                              Value.int IntKind.u8 c30, Value.int IntKind.u8 c31] ∧
                        True)
                  False ∧
                If ((nMul (nAdd (app b [c0, c1, c2, c3, c4]).length [c5].length) 1).ble 140737488355328 && (nAdd (app b [c0, c1, c2, c3, c4]).length [c5].length).ble 9223372036854775807)
                    ((Value.int IntKind.i64 (IntKind.i64.wrap (iAdd (iOf 5) 1)) = Value.int IntKind.i64 (iOf 6) ∧ True) ∧
                      EqI (app (app b [c0, c1, c2, c3, c4]) [c5]) (app b [c0, c1, c2, c3, c4, c5]) ∧
                        Array.mk
                              [Value.int IntKind.u8 c0, Value.int IntKind.u8 c1, Value.int IntKind.u8 c2, Value.int IntKind.u8 c3, Value.int IntKind.u8 c4, Value.int IntKind.u8 c5,
                                Value.int IntKind.u8 c6, Value.int IntKind.u8 c7, Value.int IntKind.u8 c8, Value.int IntKind.u8 c9, Value.int IntKind.u8 c10, Value.int IntKind.u8 c11,
                                Value.int IntKind.u8 c12, Value.int IntKind.u8 c13, Value.int IntKind.u8 c14, Value.int IntKind.u8 c15, Value.int IntKind.u8 c16, Value.int IntKind.u8 c17,
                                Value.int IntKind.u8 c18, Value.int IntKind.u8 c19, Value.int IntKind.u8 c20, Value.int IntKind.u8 c21, Value.int IntKind.u8 c22, Value.int IntKind.u8 c23,
                                Value.int IntKind.u8 c24, Value.int IntKind.u8 c25, Value.int IntKind.u8 c26, Value.int IntKind.u8 c27, Value.int IntKind.u8 c28, Value.int IntKind.u8 c29,
                                Value.int IntKind.u8 c30, Value.int IntKind.u8 c31] =
                            Array.mk
                              [Value.int IntKind.u8 c0, Value.int IntKind.u8 c1, Value.int IntKind.u8 c2, Value.int IntKind.u8 c3, Value.int IntKind.u8 c4, Value.int IntKind.u8 c5,
                                Value.int IntKind.u8 c6, Value.int IntKind.u8 c7, Value.int IntKind.u8 c8, Value.int IntKind.u8 c9, Value.int IntKind.u8 c10, Value.int IntKind.u8 c11,
                                Value.int IntKind.u8 c12, Value.int IntKind.u8 c13, Value.int IntKind.u8 c14, Value.int IntKind.u8 c15, Value.int IntKind.u8 c16, Value.int IntKind.u8 c17,
                                Value.int IntKind.u8 c18, Value.int IntKind.u8 c19, Value.int IntKind.u8 c20, Value.int IntKind.u8 c21, Value.int IntKind.u8 c22, Value.int IntKind.u8 c23,
                                Value.int IntKind.u8 c24, Value.int IntKind.u8 c25, Value.int IntKind.u8 c26, Value.int IntKind.u8 c27, Value.int IntKind.u8 c28, Value.int IntKind.u8 c29,
                                Value.int IntKind.u8 c30, Value.int IntKind.u8 c31] ∧
                          True)
                    False ∧
                  If ((nMul (nAdd (app b [c0, c1, c2, c3, c4, c5]).length [c6].length) 1).ble 140737488355328 && (nAdd (app b [c0, c1, c2, c3, c4, c5]).length [c6].length).ble 9223372036854775807)
                      ((Value.int IntKind.i64 (IntKind.i64.wrap (iAdd (iOf 6) 1)) = Value.int IntKind.i64 (iOf 7) ∧ True) ∧
                        EqI (app (app b [c0, c1, c2, c3, c4, c5]) [c6]) (app b [c0, c1, c2, c3, c4, c5, c6]) ∧
                          Array.mk
                                [Value.int IntKind.u8 c0, Value.int IntKind.u8 c1, Value.int IntKind.u8 c2, Value.int IntKind.u8 c3, Value.int IntKind.u8 c4, Value.int IntKind.u8 c5,
                                  Value.int IntKind.u8 c6, Value.int IntKind.u8 c7, Value.int IntKind.u8 c8, Value.int IntKind.u8 c9, Value.int IntKind.u8 c10, Value.int IntKind.u8 c11,
                                  Value.int IntKind.u8 c12, Value.int IntKind.u8 c13, Value.int IntKind.u8 c14, Value.int IntKind.u8 c15, Value.int IntKind.u8 c16, Value.int IntKind.u8 c17,
                                  Value.int IntKind.u8 c18, Value.int IntKind.u8 c19, Value.int IntKind.u8 c20, Value.int IntKind.u8 c21, Value.int IntKind.u8 c22, Value.int IntKind.u8 c23,
                                  Value.int IntKind.u8 c24, Value.int IntKind.u8 c25, Value.int IntKind.u8 c26, Value.int IntKind.u8 c27, Value.int IntKind.u8 c28, Value.int IntKind.u8 c29,
                                  Value.int IntKind.u8 c30, Value.int IntKind.u8 c31] =
                              Array.mk
                                [Value.int IntKind.u8 c0, Value.int IntKind.u8 c1, Value.int IntKind.u8 c2, Value.int IntKind.u8 c3, Value.int IntKind.u8 c4, Value.int IntKind.u8 c5,
                                  Value.int IntKind.u8 c6, Value.int IntKind.u8 c7, Value.int IntKind.u8 c8, Value.int IntKind.u8 c9, Value.int IntKind.u8 c10, Value.int IntKind.u8 c11,
                                  Value.int IntKind.u8 c12, Value.int IntKind.u8 c13, Value.int IntKind.u8 c14, Value.int IntKind.u8 c15, Value.int IntKind.u8 c16, Value.int IntKind.u8 c17,
                                  Value.int IntKind.u8 c18, Value.int IntKind.u8 c19, Value.int IntKind.u8 c20, Value.int IntKind.u8 c21, Value.int IntKind.u8 c22, Value.int IntKind.u8 c23,
                                  Value.int IntKind.u8 c24, Value.int IntKind.u8 c25, Value.int IntKind.u8 c26, Value.int IntKind.u8 c27, Value.int IntKind.u8 c28, Value.int IntKind.u8 c29,
                                  Value.int IntKind.u8 c30, Value.int IntKind.u8 c31] ∧
                            True)
                      False ∧
                    If
                        ((nMul (nAdd (app b [c0, c1, c2, c3, c4, c5, c6]).length [c7].length) 1).ble 140737488355328 &&
                          (nAdd (app b [c0, c1, c2, c3, c4, c5, c6]).length [c7].length).ble 9223372036854775807)
                        ((Value.int IntKind.i64 (IntKind.i64.wrap (iAdd (iOf 7) 1)) = Value.int IntKind.i64 (iOf 8) ∧ True) ∧
                          EqI (app (app b [c0, c1, c2, c3, c4, c5, c6]) [c7]) (app b [c0, c1, c2, c3, c4, c5, c6, c7]) ∧
                            Array.mk
                                  [Value.int IntKind.u8 c0, Value.int IntKind.u8 c1, Value.int IntKind.u8 c2, Value.int IntKind.u8 c3, Value.int IntKind.u8 c4, Value.int IntKind.u8 c5,
                                    Value.int IntKind.u8 c6, Value.int IntKind.u8 c7, Value.int IntKind.u8 c8, Value.int IntKind.u8 c9, Value.int IntKind.u8 c10, Value.int IntKind.u8 c11,
                                    Value.int IntKind.u8 c12, Value.int IntKind.u8 c13, Value.int IntKind.u8 c14, Value.int IntKind.u8 c15, Value.int IntKind.u8 c16, Value.int IntKind.u8 c17,
                                    Value.int IntKind.u8 c18, Value.int IntKind.u8 c19, Value.int IntKind.u8 c20, Value.int IntKind.u8 c21, Value.int IntKind.u8 c22, Value.int IntKind.u8 c23,
                                    Value.int IntKind.u8 c24, Value.int IntKind.u8 c25, Value.int IntKind.u8 c26, Value.int IntKind.u8 c27, Value.int IntKind.u8 c28, Value.int IntKind.u8 c29,
                                    Value.int IntKind.u8 c30, Value.int IntKind.u8 c31] =
                                Array.mk
                                  [Value.int IntKind.u8 c0, Value.int IntKind.u8 c1, Value.int IntKind.u8 c2, Value.int IntKind.u8 c3, Value.int IntKind.u8 c4, Value.int IntKind.u8 c5,
                                    Value.int IntKind.u8 c6, Value.int IntKind.u8 c7, Value.int IntKind.u8 c8, Value.int IntKind.u8 c9, Value.int IntKind.u8 c10, Value.int IntKind.u8 c11,
                                    Value.int IntKind.u8 c12, Value.int IntKind.u8 c13, Value.int IntKind.u8 c14, Value.int IntKind.u8 c15, Value.int IntKind.u8 c16, Value.int IntKind.u8 c17,
                                    Value.int IntKind.u8 c18, Value.int IntKind.u8 c19, Value.int IntKind.u8 c20, Value.int IntKind.u8 c21, Value.int IntKind.u8 c22, Value.int IntKind.u8 c23,
                                    Value.int IntKind.u8 c24, Value.int IntKind.u8 c25, Value.int IntKind.u8 c26, Value.int IntKind.u8 c27, Value.int IntKind.u8 c28, Value.int IntKind.u8 c29,
                                    Value.int IntKind.u8 c30, Value.int IntKind.u8 c31] ∧
                              True)
                        False ∧
                      If
                          ((nMul (nAdd (app b [c0, c1, c2, c3, c4, c5, c6, c7]).length [c8].length) 1).ble 140737488355328 &&
                            (nAdd (app b [c0, c1, c2, c3, c4, c5, c6, c7]).length [c8].length).ble 9223372036854775807)
                          ((Value.int IntKind.i64 (IntKind.i64.wrap (iAdd (iOf 8) 1)) = Value.int IntKind.i64 (iOf 9) ∧ True) ∧
                            EqI (app (app b [c0, c1, c2, c3, c4, c5, c6, c7]) [c8]) (app b [c0, c1, c2, c3, c4, c5, c6, c7, c8]) ∧
                              Array.mk
                                    [Value.int IntKind.u8 c0, Value.int IntKind.u8 c1, Value.int IntKind.u8 c2, Value.int IntKind.u8 c3, Value.int IntKind.u8 c4, Value.int IntKind.u8 c5,
                                      Value.int IntKind.u8 c6, Value.int IntKind.u8 c7, Value.int IntKind.u8 c8, Value.int IntKind.u8 c9, Value.int IntKind.u8 c10, Value.int IntKind.u8 c11,
                                      Value.int IntKind.u8 c12, Value.int IntKind.u8 c13, Value.int IntKind.u8 c14, Value.int IntKind.u8 c15, Value.int IntKind.u8 c16, Value.int IntKind.u8 c17,
                                      Value.int IntKind.u8 c18, Value.int IntKind.u8 c19, Value.int IntKind.u8 c20, Value.int IntKind.u8 c21, Value.int IntKind.u8 c22, Value.int IntKind.u8 c23,
                                      Value.int IntKind.u8 c24, Value.int IntKind.u8 c25, Value.int IntKind.u8 c26, Value.int IntKind.u8 c27, Value.int IntKind.u8 c28, Value.int IntKind.u8 c29,
                                      Value.int IntKind.u8 c30, Value.int IntKind.u8 c31] =
                                  Array.mk
                                    [Value.int IntKind.u8 c0, Value.int IntKind.u8 c1, Value.int IntKind.u8 c2, Value.int IntKind.u8 c3, Value.int IntKind.u8 c4, Value.int IntKind.u8 c5,
                                      Value.int IntKind.u8 c6, Value.int IntKind.u8 c7, Value.int IntKind.u8 c8, Value.int IntKind.u8 c9, Value.int IntKind.u8 c10, Value.int IntKind.u8 c11,
                                      Value.int IntKind.u8 c12, Value.int IntKind.u8 c13, Value.int IntKind.u8 c14, Value.int IntKind.u8 c15, Value.int IntKind.u8 c16, Value.int IntKind.u8 c17,
                                      Value.int IntKind.u8 c18, Value.int IntKind.u8 c19, Value.int IntKind.u8 c20, Value.int IntKind.u8 c21, Value.int IntKind.u8 c22, Value.int IntKind.u8 c23,
                                      Value.int IntKind.u8 c24, Value.int IntKind.u8 c25, Value.int IntKind.u8 c26, Value.int IntKind.u8 c27, Value.int IntKind.u8 c28, Value.int IntKind.u8 c29,
                                      Value.int IntKind.u8 c30, Value.int IntKind.u8 c31] ∧
                                True)
                          False ∧
                        If
                            ((nMul (nAdd (app b [c0, c1, c2, c3, c4, c5, c6, c7, c8]).length [c9].length) 1).ble 140737488355328 &&
                              (nAdd (app b [c0, c1, c2, c3, c4, c5, c6, c7, c8]).length [c9].length).ble 9223372036854775807)
                            ((Value.int IntKind.i64 (IntKind.i64.wrap (iAdd (iOf 9) 1)) = Value.int IntKind.i64 (iOf 10) ∧ True) ∧
                              EqI (app (app b [c0, c1, c2, c3, c4, c5, c6, c7, c8]) [c9]) (app b [c0, c1, c2, c3, c4, c5, c6, c7, c8, c9]) ∧
                                Array.mk
                                      [Value.int IntKind.u8 c0, Value.int IntKind.u8 c1, Value.int IntKind.u8 c2, Value.int IntKind.u8 c3, Value.int IntKind.u8 c4, Value.int IntKind.u8 c5,
                                        Value.int IntKind.u8 c6, Value.int IntKind.u8 c7, Value.int IntKind.u8 c8, Value.int IntKind.u8 c9, Value.int IntKind.u8 c10, Value.int IntKind.u8 c11,
                                        Value.int IntKind.u8 c12, Value.int IntKind.u8 c13, Value.int IntKind.u8 c14, Value.int IntKind.u8 c15, Value.int IntKind.u8 c16, Value.int IntKind.u8 c17,
                                        Value.int IntKind.u8 c18, Value.int IntKind.u8 c19, Value.int IntKind.u8 c20, Value.int IntKind.u8 c21, Value.int IntKind.u8 c22, Value.int IntKind.u8 c23,
                                        Value.int IntKind.u8 c24, Value.int IntKind.u8 c25, Value.int IntKind.u8 c26, Value.int IntKind.u8 c27, Value.int IntKind.u8 c28, Value.int IntKind.u8 c29,
                                        Value.int IntKind.u8 c30, Value.int IntKind.u8 c31] =
                                    Array.mk
                                      [Value.int IntKind.u8 c0, Value.int IntKind.u8 c1, Value.int IntKind.u8 c2, Value.int IntKind.u8 c3, Value.int IntKind.u8 c4, Value.int IntKind.u8 c5,
                                        Value.int IntKind.u8 c6, Value.int IntKind.u8 c7, Value.int IntKind.u8 c8, Value.int IntKind.u8 c9, Value.int IntKind.u8 c10, Value.int IntKind.u8 c11,
                                        Value.int IntKind.u8 c12, Value.int IntKind.u8 c13, Value.int IntKind.u8 c14, Value.int IntKind.u8 c15, Value.int IntKind.u8 c16, Value.int IntKind.u8 c17,
                                        Value.int IntKind.u8 c18, Value.int IntKind.u8 c19, Value.int IntKind.u8 c20, Value.int IntKind.u8 c21, Value.int IntKind.u8 c22, Value.int IntKind.u8 c23,
                                        Value.int IntKind.u8 c24, Value.int IntKind.u8 c25, Value.int IntKind.u8 c26, Value.int IntKind.u8 c27, Value.int IntKind.u8 c28, Value.int IntKind.u8 c29,
                                        Value.int IntKind.u8 c30, Value.int IntKind.u8 c31] ∧
                                  True)
                            False ∧
                          If
                              ((nMul (nAdd (app b [c0, c1, c2, c3, c4, c5, c6, c7, c8, c9]).length [c10].length) 1).ble 140737488355328 &&
                                (nAdd (app b [c0, c1, c2, c3, c4, c5, c6, c7, c8, c9]).length [c10].length).ble 9223372036854775807)
                              ((Value.int IntKind.i64 (IntKind.i64.wrap (iAdd (iOf 10) 1)) = Value.int IntKind.i64 (iOf 11) ∧ True) ∧
                                EqI (app (app b [c0, c1, c2, c3, c4, c5, c6, c7, c8, c9]) [c10]) (app b [c0, c1, c2, c3, c4, c5, c6, c7, c8, c9, c10]) ∧
                                  Array.mk
                                        [Value.int IntKind.u8 c0, Value.int IntKind.u8 c1, Value.int IntKind.u8 c2, Value.int IntKind.u8 c3, Value.int IntKind.u8 c4, Value.int IntKind.u8 c5,
                                          Value.int IntKind.u8 c6, Value.int IntKind.u8 c7, Value.int IntKind.u8 c8, Value.int IntKind.u8 c9, Value.int IntKind.u8 c10, Value.int IntKind.u8 c11,
                                          Value.int IntKind.u8 c12, Value.int IntKind.u8 c13, Value.int IntKind.u8 c14, Value.int IntKind.u8 c15, Value.int IntKind.u8 c16, Value.int IntKind.u8 c17,
                                          Value.int IntKind.u8 c18, Value.int IntKind.u8 c19, Value.int IntKind.u8 c20, Value.int IntKind.u8 c21, Value.int IntKind.u8 c22, Value.int IntKind.u8 c23,
                                          Value.int IntKind.u8 c24, Value.int IntKind.u8 c25, Value.int IntKind.u8 c26, Value.int IntKind.u8 c27, Value.int IntKind.u8 c28, Value.int IntKind.u8 c29,
                                          Value.int IntKind.u8 c30, Value.int IntKind.u8 c31] =
                                      Array.mk
                                        [Value.int IntKind.u8 c0, Value.int IntKind.u8 c1, Value.int IntKind.u8 c2, Value.int IntKind.u8 c3, Value.int IntKind.u8 c4, Value.int IntKind.u8 c5,
                                          Value.int IntKind.u8 c6, Value.int IntKind.u8 c7, Value.int IntKind.u8 c8, Value.int IntKind.u8 c9, Value.int IntKind.u8 c10, Value.int IntKind.u8 c11,
                                          Value.int IntKind.u8 c12, Value.int IntKind.u8 c13, Value.int IntKind.u8 c14, Value.int IntKind.u8 c15, Value.int IntKind.u8 c16, Value.int IntKind.u8 c17,
                                          Value.int IntKind.u8 c18, Value.int IntKind.u8 c19, Value.int IntKind.u8 c20, Value.int IntKind.u8 c21, Value.int IntKind.u8 c22, Value.int IntKind.u8 c23,
                                          Value.int IntKind.u8 c24, Value.int IntKind.u8 c25, Value.int IntKind.u8 c26, Value.int IntKind.u8 c27, Value.int IntKind.u8 c28, Value.int IntKind.u8 c29,
                                          Value.int IntKind.u8 c30, Value.int IntKind.u8 c31] ∧
                                    True)
                              False ∧
                            If
                                ((nMul (nAdd (app b [c0, c1, c2, c3, c4, c5, c6, c7, c8, c9, c10]).length [c11].length) 1).ble 140737488355328 &&
                                  (nAdd (app b [c0, c1, c2, c3, c4, c5, c6, c7, c8, c9, c10]).length [c11].length).ble 9223372036854775807)
                                ((Value.int IntKind.i64 (IntKind.i64.wrap (iAdd (iOf 11) 1)) = Value.int IntKind.i64 (iOf 12) ∧ True) ∧
                                  EqI (app (app b [c0, c1, c2, c3, c4, c5, c6, c7, c8, c9, c10]) [c11]) (app b [c0, c1, c2, c3, c4, c5, c6, c7, c8, c9, c10, c11]) ∧
                                    Array.mk
                                          [Value.int IntKind.u8 c0, Value.int IntKind.u8 c1, Value.int IntKind.u8 c2, Value.int IntKind.u8 c3, Value.int IntKind.u8 c4, Value.int IntKind.u8 c5,
                                            Value.int IntKind.u8 c6, Value.int IntKind.u8 c7, Value.int IntKind.u8 c8, Value.int IntKind.u8 c9, Value.int IntKind.u8 c10, Value.int IntKind.u8 c11,
                                            Value.int IntKind.u8 c12, Value.int IntKind.u8 c13, Value.int IntKind.u8 c14, Value.int IntKind.u8 c15, Value.int IntKind.u8 c16, Value.int IntKind.u8 c17,
                                            Value.int IntKind.u8 c18, Value.int IntKind.u8 c19, Value.int IntKind.u8 c20, Value.int IntKind.u8 c21, Value.int IntKind.u8 c22, Value.int IntKind.u8 c23,
                                            Value.int IntKind.u8 c24, Value.int IntKind.u8 c25, Value.int IntKind.u8 c26, Value.int IntKind.u8 c27, Value.int IntKind.u8 c28, Value.int IntKind.u8 c29,
                                            Value.int IntKind.u8 c30, Value.int IntKind.u8 c31] =
                                        Array.mk
                                          [Value.int IntKind.u8 c0, Value.int IntKind.u8 c1, Value.int IntKind.u8 c2, Value.int IntKind.u8 c3, Value.int IntKind.u8 c4, Value.int IntKind.u8 c5,
                                            Value.int IntKind.u8 c6, Value.int IntKind.u8 c7, Value.int IntKind.u8 c8, Value.int IntKind.u8 c9, Value.int IntKind.u8 c10, Value.int IntKind.u8 c11,
                                            Value.int IntKind.u8 c12, Value.int IntKind.u8 c13, Value.int IntKind.u8 c14, Value.int IntKind.u8 c15, Value.int IntKind.u8 c16, Value.int IntKind.u8 c17,
                                            Value.int IntKind.u8 c18, Value.int IntKind.u8 c19, Value.int IntKind.u8 c20, Value.int IntKind.u8 c21, Value.int IntKind.u8 c22, Value.int IntKind.u8 c23,
                                            Value.int IntKind.u8 c24, Value.int IntKind.u8 c25, Value.int IntKind.u8 c26, Value.int IntKind.u8 c27, Value.int IntKind.u8 c28, Value.int IntKind.u8 c29,
                                            Value.int IntKind.u8 c30, Value.int IntKind.u8 c31] ∧
                                      True)
                                False ∧
                              If
                                  ((nMul (nAdd (app b [c0, c1, c2, c3, c4, c5, c6, c7, c8, c9, c10, c11]).length [c12].length) 1).ble 140737488355328 &&
                                    (nAdd (app b [c0, c1, c2, c3, c4, c5, c6, c7, c8, c9, c10, c11]).length [c12].length).ble 9223372036854775807)
                                  ((Value.int IntKind.i64 (IntKind.i64.wrap (iAdd (iOf 12) 1)) = Value.int IntKind.i64 (iOf 13) ∧ True) ∧
                                    EqI (app (app b [c0, c1, c2, c3, c4, c5, c6, c7, c8, c9, c10, c11]) [c12]) (app b [c0, c1, c2, c3, c4, c5, c6, c7, c8, c9, c10, c11, c12]) ∧
                                      Array.mk
                                            [Value.int IntKind.u8 c0, Value.int IntKind.u8 c1, Value.int IntKind.u8 c2, Value.int IntKind.u8 c3, Value.int IntKind.u8 c4, Value.int IntKind.u8 c5,
                                              Value.int IntKind.u8 c6, Value.int IntKind.u8 c7, Value.int IntKind.u8 c8, Value.int IntKind.u8 c9, Value.int IntKind.u8 c10, Value.int IntKind.u8 c11,
                                              Value.int IntKind.u8 c12, Value.int IntKind.u8 c13, Value.int IntKind.u8 c14, Value.int IntKind.u8 c15, Value.int IntKind.u8 c16, Value.int IntKind.u8 c17,
                                              Value.int IntKind.u8 c18, Value.int IntKind.u8 c19, Value.int IntKind.u8 c20, Value.int IntKind.u8 c21, Value.int IntKind.u8 c22, Value.int IntKind.u8 c23,
                                              Value.int IntKind.u8 c24, Value.int IntKind.u8 c25, Value.int IntKind.u8 c26, Value.int IntKind.u8 c27, Value.int IntKind.u8 c28, Value.int IntKind.u8 c29,
                                              Value.int IntKind.u8 c30, Value.int IntKind.u8 c31] =
                                          Array.mk
                                            [Value.int IntKind.u8 c0, Value.int IntKind.u8 c1, Value.int IntKind.u8 c2, Value.int IntKind.u8 c3, Value.int IntKind.u8 c4, Value.int IntKind.u8 c5,
                                              Value.int IntKind.u8 c6, Value.int IntKind.u8 c7, Value.int IntKind.u8 c8, Value.int IntKind.u8 c9, Value.int IntKind.u8 c10, Value.int IntKind.u8 c11,
                                              Value.int IntKind.u8 c12, Value.int IntKind.u8 c13, Value.int IntKind.u8 c14, Value.int IntKind.u8 c15, Value.int IntKind.u8 c16, Value.int IntKind.u8 c17,
                                              Value.int IntKind.u8 c18, Value.int IntKind.u8 c19, Value.int IntKind.u8 c20, Value.int IntKind.u8 c21, Value.int IntKind.u8 c22, Value.int IntKind.u8 c23,
                                              Value.int IntKind.u8 c24, Value.int IntKind.u8 c25, Value.int IntKind.u8 c26, Value.int IntKind.u8 c27, Value.int IntKind.u8 c28, Value.int IntKind.u8 c29,
                                              Value.int IntKind.u8 c30, Value.int IntKind.u8 c31] ∧
                                        True)
                                  False ∧
                                If
                                    ((nMul (nAdd (app b [c0, c1, c2, c3, c4, c5, c6, c7, c8, c9, c10, c11, c12]).length [c13].length) 1).ble 140737488355328 &&
                                      (nAdd (app b [c0, c1, c2, c3, c4, c5, c6, c7, c8, c9, c10, c11, c12]).length [c13].length).ble 9223372036854775807)
                                    ((Value.int IntKind.i64 (IntKind.i64.wrap (iAdd (iOf 13) 1)) = Value.int IntKind.i64 (iOf 14) ∧ True) ∧
                                      EqI (app (app b [c0, c1, c2, c3, c4, c5, c6, c7, c8, c9, c10, c11, c12]) [c13]) (app b [c0, c1, c2, c3, c4, c5, c6, c7, c8, c9, c10, c11, c12, c13]) ∧
                                        Array.mk
                                              [Value.int IntKind.u8 c0, Value.int IntKind.u8 c1, Value.int IntKind.u8 c2, Value.int IntKind.u8 c3, Value.int IntKind.u8 c4, Value.int IntKind.u8 c5,
                                                Value.int IntKind.u8 c6, Value.int IntKind.u8 c7, Value.int IntKind.u8 c8, Value.int IntKind.u8 c9, Value.int IntKind.u8 c10, Value.int IntKind.u8 c11,
                                                Value.int IntKind.u8 c12, Value.int IntKind.u8 c13, Value.int IntKind.u8 c14, Value.int IntKind.u8 c15, Value.int IntKind.u8 c16,
                                                Value.int IntKind.u8 c17, Value.int IntKind.u8 c18, Value.int IntKind.u8 c19, Value.int IntKind.u8 c20, Value.int IntKind.u8 c21,
                                                Value.int IntKind.u8 c22, Value.int IntKind.u8 c23, Value.int IntKind.u8 c24, Value.int IntKind.u8 c25, Value.int IntKind.u8 c26,
                                                Value.int IntKind.u8 c27, Value.int IntKind.u8 c28, Value.int IntKind.u8 c29, Value.int IntKind.u8 c30, Value.int IntKind.u8 c31] =
                                            Array.mk
                                              [Value.int IntKind.u8 c0, Value.int IntKind.u8 c1, Value.int IntKind.u8 c2, Value.int IntKind.u8 c3, Value.int IntKind.u8 c4, Value.int IntKind.u8 c5,
                                                Value.int IntKind.u8 c6, Value.int IntKind.u8 c7, Value.int IntKind.u8 c8, Value.int IntKind.u8 c9, Value.int IntKind.u8 c10, Value.int IntKind.u8 c11,
                                                Value.int IntKind.u8 c12, Value.int IntKind.u8 c13, Value.int IntKind.u8 c14, Value.int IntKind.u8 c15, Value.int IntKind.u8 c16,
                                                Value.int IntKind.u8 c17, Value.int IntKind.u8 c18, Value.int IntKind.u8 c19, Value.int IntKind.u8 c20, Value.int IntKind.u8 c21,
                                                Value.int IntKind.u8 c22, Value.int IntKind.u8 c23, Value.int IntKind.u8 c24, Value.int IntKind.u8 c25, Value.int IntKind.u8 c26,
                                                Value.int IntKind.u8 c27, Value.int IntKind.u8 c28, Value.int IntKind.u8 c29, Value.int IntKind.u8 c30, Value.int IntKind.u8 c31] ∧
                                          True)
                                    False ∧
                                  If
                                      ((nMul (nAdd (app b [c0, c1, c2, c3, c4, c5, c6, c7, c8, c9, c10, c11, c12, c13]).length [c14].length) 1).ble 140737488355328 &&
                                        (nAdd (app b [c0, c1, c2, c3, c4, c5, c6, c7, c8, c9, c10, c11, c12, c13]).length [c14].length).ble 9223372036854775807)
                                      ((Value.int IntKind.i64 (IntKind.i64.wrap (iAdd (iOf 14) 1)) = Value.int IntKind.i64 (iOf 15) ∧ True) ∧
                                        EqI (app (app b [c0, c1, c2, c3, c4, c5, c6, c7, c8, c9, c10, c11, c12, c13]) [c14]) (app b [c0, c1, c2, c3, c4, c5, c6, c7, c8, c9, c10, c11, c12, c13, c14]) ∧
                                          Array.mk
                                                [Value.int IntKind.u8 c0, Value.int IntKind.u8 c1, Value.int IntKind.u8 c2, Value.int IntKind.u8 c3, Value.int IntKind.u8 c4, Value.int IntKind.u8 c5,
                                                  Value.int IntKind.u8 c6, Value.int IntKind.u8 c7, Value.int IntKind.u8 c8, Value.int IntKind.u8 c9, Value.int IntKind.u8 c10, Value.int IntKind.u8 c11,
                                                  Value.int IntKind.u8 c12, Value.int IntKind.u8 c13, Value.int IntKind.u8 c14, Value.int IntKind.u8 c15, Value.int IntKind.u8 c16,
                                                  Value.int IntKind.u8 c17, Value.int IntKind.u8 c18, Value.int IntKind.u8 c19, Value.int IntKind.u8 c20, Value.int IntKind.u8 c21,
                                                  Value.int IntKind.u8 c22, Value.int IntKind.u8 c23, Value.int IntKind.u8 c24, Value.int IntKind.u8 c25, Value.int IntKind.u8 c26,
                                                  Value.int IntKind.u8 c27, Value.int IntKind.u8 c28, Value.int IntKind.u8 c29, Value.int IntKind.u8 c30, Value.int IntKind.u8 c31] =
                                              Array.mk
                                                [Value.int IntKind.u8 c0, Value.int IntKind.u8 c1, Value.int IntKind.u8 c2, Value.int IntKind.u8 c3, Value.int IntKind.u8 c4, Value.int IntKind.u8 c5,
                                                  Value.int IntKind.u8 c6, Value.int IntKind.u8 c7, Value.int IntKind.u8 c8, Value.int IntKind.u8 c9, Value.int IntKind.u8 c10, Value.int IntKind.u8 c11,
                                                  Value.int IntKind.u8 c12, Value.int IntKind.u8 c13, Value.int IntKind.u8 c14, Value.int IntKind.u8 c15, Value.int IntKind.u8 c16,
                                                  Value.int IntKind.u8 c17, Value.int IntKind.u8 c18, Value.int IntKind.u8 c19, Value.int IntKind.u8 c20, Value.int IntKind.u8 c21,
                                                  Value.int IntKind.u8 c22, Value.int IntKind.u8 c23, Value.int IntKind.u8 c24, Value.int IntKind.u8 c25, Value.int IntKind.u8 c26,
                                                  Value.int IntKind.u8 c27, Value.int IntKind.u8 c28, Value.int IntKind.u8 c29, Value.int IntKind.u8 c30, Value.int IntKind.u8 c31] ∧
                                            True)
                                      False ∧
                                    If
                                        ((nMul (nAdd (app b [c0, c1, c2, c3, c4, c5, c6, c7, c8, c9, c10, c11, c12, c13, c14]).length [c15].length) 1).ble 140737488355328 &&
                                          (nAdd (app b [c0, c1, c2, c3, c4, c5, c6, c7, c8, c9, c10, c11, c12, c13, c14]).length [c15].length).ble 9223372036854775807)
                                        ((Value.int IntKind.i64 (IntKind.i64.wrap (iAdd (iOf 15) 1)) = Value.int IntKind.i64 (iOf 16) ∧ True) ∧
                                          EqI (app (app b [c0, c1, c2, c3, c4, c5, c6, c7, c8, c9, c10, c11, c12, c13, c14]) [c15])
                                              (app b [c0, c1, c2, c3, c4, c5, c6, c7, c8, c9, c10, c11, c12, c13, c14, c15]) ∧
                                            Array.mk
                                                  [Value.int IntKind.u8 c0, Value.int IntKind.u8 c1, Value.int IntKind.u8 c2, Value.int IntKind.u8 c3, Value.int IntKind.u8 c4, Value.int IntKind.u8 c5,
                                                    Value.int IntKind.u8 c6, Value.int IntKind.u8 c7, Value.int IntKind.u8 c8, Value.int IntKind.u8 c9, Value.int IntKind.u8 c10,
                                                    Value.int IntKind.u8 c11, Value.int IntKind.u8 c12, Value.int IntKind.u8 c13, Value.int IntKind.u8 c14, Value.int IntKind.u8 c15,
                                                    Value.int IntKind.u8 c16, Value.int IntKind.u8 c17, Value.int IntKind.u8 c18, Value.int IntKind.u8 c19, Value.int IntKind.u8 c20,
                                                    Value.int IntKind.u8 c21, Value.int IntKind.u8 c22, Value.int IntKind.u8 c23, Value.int IntKind.u8 c24, Value.int IntKind.u8 c25,
                                                    Value.int IntKind.u8 c26, Value.int IntKind.u8 c27, Value.int IntKind.u8 c28, Value.int IntKind.u8 c29, Value.int IntKind.u8 c30,
                                                    Value.int IntKind.u8 c31] =
                                                Array.mk
                                                  [Value.int IntKind.u8 c0, Value.int IntKind.u8 c1, Value.int IntKind.u8 c2, Value.int IntKind.u8 c3, Value.int IntKind.u8 c4, Value.int IntKind.u8 c5,
                                                    Value.int IntKind.u8 c6, Value.int IntKind.u8 c7, Value.int IntKind.u8 c8, Value.int IntKind.u8 c9, Value.int IntKind.u8 c10,
                                                    Value.int IntKind.u8 c11, Value.int IntKind.u8 c12, Value.int IntKind.u8 c13, Value.int IntKind.u8 c14, Value.int IntKind.u8 c15,
                                                    Value.int IntKind.u8 c16, Value.int IntKind.u8 c17, Value.int IntKind.u8 c18, Value.int IntKind.u8 c19, Value.int IntKind.u8 c20,
                                                    Value.int IntKind.u8 c21, Value.int IntKind.u8 c22, Value.int IntKind.u8 c23, Value.int IntKind.u8 c24, Value.int IntKind.u8 c25,
                                                    Value.int IntKind.u8 c26, Value.int IntKind.u8 c27, Value.int IntKind.u8 c28, Value.int IntKind.u8 c29, Value.int IntKind.u8 c30,
                                                    Value.int IntKind.u8 c31] ∧
                                              True)
                                        False ∧
                                      If
                                          ((nMul (nAdd (app b [c0, c1, c2, c3, c4, c5, c6, c7, c8, c9, c10, c11, c12, c13, c14, c15]).length [c16].length) 1).ble 140737488355328 &&
                                            (nAdd (app b [c0, c1, c2, c3, c4, c5, c6, c7, c8, c9, c10, c11, c12, c13, c14, c15]).length [c16].length).ble 9223372036854775807)
                                          ((Value.int IntKind.i64 (IntKind.i64.wrap (iAdd (iOf 16) 1)) = Value.int IntKind.i64 (iOf 17) ∧ True) ∧
                                            EqI (app (app b [c0, c1, c2, c3, c4, c5, c6, c7, c8, c9, c10, c11, c12, c13, c14, c15]) [c16])
                                                (app b [c0, c1, c2, c3, c4, c5, c6, c7, c8, c9, c10, c11, c12, c13, c14, c15, c16]) ∧
                                              Array.mk
                                                    [Value.int IntKind.u8 c0, Value.int IntKind.u8 c1, Value.int IntKind.u8 c2, Value.int IntKind.u8 c3, Value.int IntKind.u8 c4, Value.int IntKind.u8 c5,
                                                      Value.int IntKind.u8 c6, Value.int IntKind.u8 c7, Value.int IntKind.u8 c8, Value.int IntKind.u8 c9, Value.int IntKind.u8 c10,
                                                      Value.int IntKind.u8 c11, Value.int IntKind.u8 c12, Value.int IntKind.u8 c13, Value.int IntKind.u8 c14, Value.int IntKind.u8 c15,
                                                      Value.int IntKind.u8 c16, Value.int IntKind.u8 c17, Value.int IntKind.u8 c18, Value.int IntKind.u8 c19, Value.int IntKind.u8 c20,
                                                      Value.int IntKind.u8 c21, Value.int IntKind.u8 c22, Value.int IntKind.u8 c23, Value.int IntKind.u8 c24, Value.int IntKind.u8 c25,
                                                      Value.int IntKind.u8 c26, Value.int IntKind.u8 c27, Value.int IntKind.u8 c28, Value.int IntKind.u8 c29, Value.int IntKind.u8 c30,
                                                      Value.int IntKind.u8 c31] =
                                                  Array.mk
                                                    [Value.int IntKind.u8 c0, Value.int IntKind.u8 c1, Value.int IntKind.u8 c2, Value.int IntKind.u8 c3, Value.int IntKind.u8 c4, Value.int IntKind.u8 c5,
                                                      Value.int IntKind.u8 c6, Value.int IntKind.u8 c7, Value.int IntKind.u8 c8, Value.int IntKind.u8 c9, Value.int IntKind.u8 c10,
                                                      Value.int IntKind.u8 c11, Value.int IntKind.u8 c12, Value.int IntKind.u8 c13, Value.int IntKind.u8 c14, Value.int IntKind.u8 c15,
                                                      Value.int IntKind.u8 c16, Value.int IntKind.u8 c17, Value.int IntKind.u8 c18, Value.int IntKind.u8 c19, Value.int IntKind.u8 c20,
                                                      Value.int IntKind.u8 c21, Value.int IntKind.u8 c22, Value.int IntKind.u8 c23, Value.int IntKind.u8 c24, Value.int IntKind.u8 c25,
                                                      Value.int IntKind.u8 c26, Value.int IntKind.u8 c27, Value.int IntKind.u8 c28, Value.int IntKind.u8 c29, Value.int IntKind.u8 c30,
                                                      Value.int IntKind.u8 c31] ∧
                                                True)
                                          False ∧
                                        If
                                            ((nMul (nAdd (app b [c0, c1, c2, c3, c4, c5, c6, c7, c8, c9, c10, c11, c12, c13, c14, c15, c16]).length [c17].length) 1).ble 140737488355328 &&
                                              (nAdd (app b [c0, c1, c2, c3, c4, c5, c6, c7, c8, c9, c10, c11, c12, c13, c14, c15, c16]).length [c17].length).ble 9223372036854775807)
                                            ((Value.int IntKind.i64 (IntKind.i64.wrap (iAdd (iOf 17) 1)) = Value.int IntKind.i64 (iOf 18) ∧ True) ∧
                                              EqI (app (app b [c0, c1, c2, c3, c4, c5, c6, c7, c8, c9, c10, c11, c12, c13, c14, c15, c16]) [c17])
                                                  (app b [c0, c1, c2, c3, c4, c5, c6, c7, c8, c9, c10, c11, c12, c13, c14, c15, c16, c17]) ∧
                                                Array.mk
                                                      [Value.int IntKind.u8 c0, Value.int IntKind.u8 c1, Value.int IntKind.u8 c2, Value.int IntKind.u8 c3, Value.int IntKind.u8 c4,
                                                        Value.int IntKind.u8 c5, Value.int IntKind.u8 c6, Value.int IntKind.u8 c7, Value.int IntKind.u8 c8, Value.int IntKind.u8 c9,
                                                        Value.int IntKind.u8 c10, Value.int IntKind.u8 c11, Value.int IntKind.u8 c12, Value.int IntKind.u8 c13, Value.int IntKind.u8 c14,
                                                        Value.int IntKind.u8 c15, Value.int IntKind.u8 c16, Value.int IntKind.u8 c17, Value.int IntKind.u8 c18, Value.int IntKind.u8 c19,
                                                        Value.int IntKind.u8 c20, Value.int IntKind.u8 c21, Value.int IntKind.u8 c22, Value.int IntKind.u8 c23, Value.int IntKind.u8 c24,
                                                        Value.int IntKind.u8 c25, Value.int IntKind.u8 c26, Value.int IntKind.u8 c27, Value.int IntKind.u8 c28, Value.int IntKind.u8 c29,
                                                        Value.int IntKind.u8 c30, Value.int IntKind.u8 c31] =
                                                    Array.mk
                                                      [Value.int IntKind.u8 c0, Value.int IntKind.u8 c1, Value.int IntKind.u8 c2, Value.int IntKind.u8 c3, Value.int IntKind.u8 c4,
                                                        Value.int IntKind.u8 c5, Value.int IntKind.u8 c6, Value.int IntKind.u8 c7, Value.int IntKind.u8 c8, Value.int IntKind.u8 c9,
                                                        Value.int IntKind.u8 c10, Value.int IntKind.u8 c11, Value.int IntKind.u8 c12, Value.int IntKind.u8 c13, Value.int IntKind.u8 c14,
                                                        Value.int IntKind.u8 c15, Value.int IntKind.u8 c16, Value.int IntKind.u8 c17, Value.int IntKind.u8 c18, Value.int IntKind.u8 c19,
                                                        Value.int IntKind.u8 c20, Value.int IntKind.u8 c21, Value.int IntKind.u8 c22, Value.int IntKind.u8 c23, Value.int IntKind.u8 c24,
                                                        Value.int IntKind.u8 c25, Value.int IntKind.u8 c26, Value.int IntKind.u8 c27, Value.int IntKind.u8 c28, Value.int IntKind.u8 c29,
                                                        Value.int IntKind.u8 c30, Value.int IntKind.u8 c31] ∧
                                                  True)
                                            False ∧
                                          If
                                              ((nMul (nAdd (app b [c0, c1, c2, c3, c4, c5, c6, c7, c8, c9, c10, c11, c12, c13, c14, c15, c16, c17]).length [c18].length) 1).ble 140737488355328 &&
                                                (nAdd (app b [c0, c1, c2, c3, c4, c5, c6, c7, c8, c9, c10, c11, c12, c13, c14, c15, c16, c17]).length [c18].length).ble 9223372036854775807)
                                              ((Value.int IntKind.i64 (IntKind.i64.wrap (iAdd (iOf 18) 1)) = Value.int IntKind.i64 (iOf 19) ∧ True) ∧
                                                EqI (app (app b [c0, c1, c2, c3, c4, c5, c6, c7, c8, c9, c10, c11, c12, c13, c14, c15, c16, c17]) [c18])
                                                    (app b [c0, c1, c2, c3, c4, c5, c6, c7, c8, c9, c10, c11, c12, c13, c14, c15, c16, c17, c18]) ∧
                                                  Array.mk
                                                        [Value.int IntKind.u8 c0, Value.int IntKind.u8 c1, Value.int IntKind.u8 c2, Value.int IntKind.u8 c3, Value.int IntKind.u8 c4,
                                                          Value.int IntKind.u8 c5, Value.int IntKind.u8 c6, Value.int IntKind.u8 c7, Value.int IntKind.u8 c8, Value.int IntKind.u8 c9,
                                                          Value.int IntKind.u8 c10, Value.int IntKind.u8 c11, Value.int IntKind.u8 c12, Value.int IntKind.u8 c13, Value.int IntKind.u8 c14,
                                                          Value.int IntKind.u8 c15, Value.int IntKind.u8 c16, Value.int IntKind.u8 c17, Value.int IntKind.u8 c18, Value.int IntKind.u8 c19,
                                                          Value.int IntKind.u8 c20, Value.int IntKind.u8 c21, Value.int IntKind.u8 c22, Value.int IntKind.u8 c23, Value.int IntKind.u8 c24,
                                                          Value.int IntKind.u8 c25, Value.int IntKind.u8 c26, Value.int IntKind.u8 c27, Value.int IntKind.u8 c28, Value.int IntKind.u8 c29,
                                                          Value.int IntKind.u8 c30, Value.int IntKind.u8 c31] =
                                                      Array.mk
                                                        [Value.int IntKind.u8 c0, Value.int IntKind.u8 c1, Value.int IntKind.u8 c2, Value.int IntKind.u8 c3, Value.int IntKind.u8 c4,
                                                          Value.int IntKind.u8 c5, Value.int IntKind.u8 c6, Value.int IntKind.u8 c7, Value.int IntKind.u8 c8, Value.int IntKind.u8 c9,
                                                          Value.int IntKind.u8 c10, Value.int IntKind.u8 c11, Value.int IntKind.u8 c12, Value.int IntKind.u8 c13, Value.int IntKind.u8 c14,
                                                          Value.int IntKind.u8 c15, Value.int IntKind.u8 c16, Value.int IntKind.u8 c17, Value.int IntKind.u8 c18, Value.int IntKind.u8 c19,
                                                          Value.int IntKind.u8 c20, Value.int IntKind.u8 c21, Value.int IntKind.u8 c22, Value.int IntKind.u8 c23, Value.int IntKind.u8 c24,
                                                          Value.int IntKind.u8 c25, Value.int IntKind.u8 c26, Value.int IntKind.u8 c27, Value.int IntKind.u8 c28, Value.int IntKind.u8 c29,
                                                          Value.int IntKind.u8 c30, Value.int IntKind.u8 c31] ∧
                                                    True)
                                              False ∧
                                            If
                                                ((nMul (nAdd (app b [c0, c1, c2, c3, c4, c5, c6, c7, c8, c9, c10, c11, c12, c13, c14, c15, c16, c17, c18]).length [c19].length) 1).ble 140737488355328 &&
                                                  (nAdd (app b [c0, c1, c2, c3, c4, c5, c6, c7, c8, c9, c10, c11, c12, c13, c14, c15, c16, c17, c18]).length [c19].length).ble 9223372036854775807)
                                                ((Value.int IntKind.i64 (IntKind.i64.wrap (iAdd (iOf 19) 1)) = Value.int IntKind.i64 (iOf 20) ∧ True) ∧
                                                  EqI (app (app b [c0, c1, c2, c3, c4, c5, c6, c7, c8, c9, c10, c11, c12, c13, c14, c15, c16, c17, c18]) [c19])
                                                      (app b [c0, c1, c2, c3, c4, c5, c6, c7, c8, c9, c10, c11, c12, c13, c14, c15, c16, c17, c18, c19]) ∧
                                                    Array.mk
                                                          [Value.int IntKind.u8 c0, Value.int IntKind.u8 c1, Value.int IntKind.u8 c2, Value.int IntKind.u8 c3, Value.int IntKind.u8 c4,
                                                            Value.int IntKind.u8 c5, Value.int IntKind.u8 c6, Value.int IntKind.u8 c7, Value.int IntKind.u8 c8, Value.int IntKind.u8 c9,
                                                            Value.int IntKind.u8 c10, Value.int IntKind.u8 c11, Value.int IntKind.u8 c12, Value.int IntKind.u8 c13, Value.int IntKind.u8 c14,
                                                            Value.int IntKind.u8 c15, Value.int IntKind.u8 c16, Value.int IntKind.u8 c17, Value.int IntKind.u8 c18, Value.int IntKind.u8 c19,
                                                            Value.int IntKind.u8 c20, Value.int IntKind.u8 c21, Value.int IntKind.u8 c22, Value.int IntKind.u8 c23, Value.int IntKind.u8 c24,
                                                            Value.int IntKind.u8 c25, Value.int IntKind.u8 c26, Value.int IntKind.u8 c27, Value.int IntKind.u8 c28, Value.int IntKind.u8 c29,
                                                            Value.int IntKind.u8 c30, Value.int IntKind.u8 c31] =
                                                        Array.mk
                                                          [Value.int IntKind.u8 c0, Value.int IntKind.u8 c1, Value.int IntKind.u8 c2, Value.int IntKind.u8 c3, Value.int IntKind.u8 c4,
                                                            Value.int IntKind.u8 c5, Value.int IntKind.u8 c6, Value.int IntKind.u8 c7, Value.int IntKind.u8 c8, Value.int IntKind.u8 c9,
                                                            Value.int IntKind.u8 c10, Value.int IntKind.u8 c11, Value.int IntKind.u8 c12, Value.int IntKind.u8 c13, Value.int IntKind.u8 c14,
                                                            Value.int IntKind.u8 c15, Value.int IntKind.u8 c16, Value.int IntKind.u8 c17, Value.int IntKind.u8 c18, Value.int IntKind.u8 c19,
                                                            Value.int IntKind.u8 c20, Value.int IntKind.u8 c21, Value.int IntKind.u8 c22, Value.int IntKind.u8 c23, Value.int IntKind.u8 c24,
                                                            Value.int IntKind.u8 c25, Value.int IntKind.u8 c26, Value.int IntKind.u8 c27, Value.int IntKind.u8 c28, Value.int IntKind.u8 c29,
                                                            Value.int IntKind.u8 c30, Value.int IntKind.u8 c31] ∧
                                                      True)
                                                False ∧
                                              If
                                                  ((nMul (nAdd (app b [c0, c1, c2, c3, c4, c5, c6, c7, c8, c9, c10, c11, c12, c13, c14, c15, c16, c17, c18, c19]).length [c20].length) 1).ble
                                                      140737488355328 &&
                                                    (nAdd (app b [c0, c1, c2, c3, c4, c5, c6, c7, c8, c9, c10, c11, c12, c13, c14, c15, c16, c17, c18, c19]).length [c20].length).ble 9223372036854775807)
                                                  ((Value.int IntKind.i64 (IntKind.i64.wrap (iAdd (iOf 20) 1)) = Value.int IntKind.i64 (iOf 21) ∧ True) ∧
                                                    EqI (app (app b [c0, c1, c2, c3, c4, c5, c6, c7, c8, c9, c10, c11, c12, c13, c14, c15, c16, c17, c18, c19]) [c20])
                                                        (app b [c0, c1, c2, c3, c4, c5, c6, c7, c8, c9, c10, c11, c12, c13, c14, c15, c16, c17, c18, c19, c20]) ∧
                                                      Array.mk
                                                            [Value.int IntKind.u8 c0, Value.int IntKind.u8 c1, Value.int IntKind.u8 c2, Value.int IntKind.u8 c3, Value.int IntKind.u8 c4,
                                                              Value.int IntKind.u8 c5, Value.int IntKind.u8 c6, Value.int IntKind.u8 c7, Value.int IntKind.u8 c8, Value.int IntKind.u8 c9,
                                                              Value.int IntKind.u8 c10, Value.int IntKind.u8 c11, Value.int IntKind.u8 c12, Value.int IntKind.u8 c13, Value.int IntKind.u8 c14,
                                                              Value.int IntKind.u8 c15, Value.int IntKind.u8 c16, Value.int IntKind.u8 c17, Value.int IntKind.u8 c18, Value.int IntKind.u8 c19,
                                                              Value.int IntKind.u8 c20, Value.int IntKind.u8 c21, Value.int IntKind.u8 c22, Value.int IntKind.u8 c23, Value.int IntKind.u8 c24,
                                                              Value.int IntKind.u8 c25, Value.int IntKind.u8 c26, Value.int IntKind.u8 c27, Value.int IntKind.u8 c28, Value.int IntKind.u8 c29,
                                                              Value.int IntKind.u8 c30, Value.int IntKind.u8 c31] =
                                                          Array.mk
                                                            [Value.int IntKind.u8 c0, Value.int IntKind.u8 c1, Value.int IntKind.u8 c2, Value.int IntKind.u8 c3, Value.int IntKind.u8 c4,
                                                              Value.int IntKind.u8 c5, Value.int IntKind.u8 c6, Value.int IntKind.u8 c7, Value.int IntKind.u8 c8, Value.int IntKind.u8 c9,
                                                              Value.int IntKind.u8 c10, Value.int IntKind.u8 c11, Value.int IntKind.u8 c12, Value.int IntKind.u8 c13, Value.int IntKind.u8 c14,
                                                              Value.int IntKind.u8 c15, Value.int IntKind.u8 c16, Value.int IntKind.u8 c17, Value.int IntKind.u8 c18, Value.int IntKind.u8 c19,
                                                              Value.int IntKind.u8 c20, Value.int IntKind.u8 c21, Value.int IntKind.u8 c22, Value.int IntKind.u8 c23, Value.int IntKind.u8 c24,
                                                              Value.int IntKind.u8 c25, Value.int IntKind.u8 c26, Value.int IntKind.u8 c27, Value.int IntKind.u8 c28, Value.int IntKind.u8 c29,
                                                              Value.int IntKind.u8 c30, Value.int IntKind.u8 c31] ∧
                                                        True)
                                                  False ∧
                                                If
                                                    ((nMul (nAdd (app b [c0, c1, c2, c3, c4, c5, c6, c7, c8, c9, c10, c11, c12, c13, c14, c15, c16, c17, c18, c19, c20]).length [c21].length) 1).ble
                                                        140737488355328 &&
                                                      (nAdd (app b [c0, c1, c2, c3, c4, c5, c6, c7, c8, c9, c10, c11, c12, c13, c14, c15, c16, c17, c18, c19, c20]).length [c21].length).ble
                                                        9223372036854775807)
                                                    ((Value.int IntKind.i64 (IntKind.i64.wrap (iAdd (iOf 21) 1)) = Value.int IntKind.i64 (iOf 22) ∧ True) ∧
                                                      EqI (app (app b [c0, c1, c2, c3, c4, c5, c6, c7, c8, c9, c10, c11, c12, c13, c14, c15, c16, c17, c18, c19, c20]) [c21])
                                                          (app b [c0, c1, c2, c3, c4, c5, c6, c7, c8, c9, c10, c11, c12, c13, c14, c15, c16, c17, c18, c19, c20, c21]) ∧
                                                        Array.mk
                                                              [Value.int IntKind.u8 c0, Value.int IntKind.u8 c1, Value.int IntKind.u8 c2, Value.int IntKind.u8 c3, Value.int IntKind.u8 c4,
                                                                Value.int IntKind.u8 c5, Value.int IntKind.u8 c6, Value.int IntKind.u8 c7, Value.int IntKind.u8 c8, Value.int IntKind.u8 c9,
                                                                Value.int IntKind.u8 c10, Value.int IntKind.u8 c11, Value.int IntKind.u8 c12, Value.int IntKind.u8 c13, Value.int IntKind.u8 c14,
                                                                Value.int IntKind.u8 c15, Value.int IntKind.u8 c16, Value.int IntKind.u8 c17, Value.int IntKind.u8 c18, Value.int IntKind.u8 c19,
                                                                Value.int IntKind.u8 c20, Value.int IntKind.u8 c21, Value.int IntKind.u8 c22, Value.int IntKind.u8 c23, Value.int IntKind.u8 c24,
                                                                Value.int IntKind.u8 c25, Value.int IntKind.u8 c26, Value.int IntKind.u8 c27, Value.int IntKind.u8 c28, Value.int IntKind.u8 c29,
                                                                Value.int IntKind.u8 c30, Value.int IntKind.u8 c31] =
                                                            Array.mk
                                                              [Value.int IntKind.u8 c0, Value.int IntKind.u8 c1, Value.int IntKind.u8 c2, Value.int IntKind.u8 c3, Value.int IntKind.u8 c4,
                                                                Value.int IntKind.u8 c5, Value.int IntKind.u8 c6, Value.int IntKind.u8 c7, Value.int IntKind.u8 c8, Value.int IntKind.u8 c9,
                                                                Value.int IntKind.u8 c10, Value.int IntKind.u8 c11, Value.int IntKind.u8 c12, Value.int IntKind.u8 c13, Value.int IntKind.u8 c14,
                                                                Value.int IntKind.u8 c15, Value.int IntKind.u8 c16, Value.int IntKind.u8 c17, Value.int IntKind.u8 c18, Value.int IntKind.u8 c19,
                                                                Value.int IntKind.u8 c20, Value.int IntKind.u8 c21, Value.int IntKind.u8 c22, Value.int IntKind.u8 c23, Value.int IntKind.u8 c24,
                                                                Value.int IntKind.u8 c25, Value.int IntKind.u8 c26, Value.int IntKind.u8 c27, Value.int IntKind.u8 c28, Value.int IntKind.u8 c29,
                                                                Value.int IntKind.u8 c30, Value.int IntKind.u8 c31] ∧
                                                          True)
                                                    False ∧
                                                  If
                                                      ((nMul (nAdd (app b [c0, c1, c2, c3, c4, c5, c6, c7, c8, c9, c10, c11, c12, c13, c14, c15, c16, c17, c18, c19, c20, c21]).length [c22].length)
                                                              1).ble
                                                          140737488355328 &&
                                                        (nAdd (app b [c0, c1, c2, c3, c4, c5, c6, c7, c8, c9, c10, c11, c12, c13, c14, c15, c16, c17, c18, c19, c20, c21]).length [c22].length).ble
                                                          9223372036854775807)
                                                      ((Value.int IntKind.i64 (IntKind.i64.wrap (iAdd (iOf 22) 1)) = Value.int IntKind.i64 (iOf 23) ∧ True) ∧
                                                        EqI (app (app b [c0, c1, c2, c3, c4, c5, c6, c7, c8, c9, c10, c11, c12, c13, c14, c15, c16, c17, c18, c19, c20, c21]) [c22])
                                                            (app b [c0, c1, c2, c3, c4, c5, c6, c7, c8, c9, c10, c11, c12, c13, c14, c15, c16, c17, c18, c19, c20, c21, c22]) ∧
                                                          Array.mk
                                                                [Value.int IntKind.u8 c0, Value.int IntKind.u8 c1, Value.int IntKind.u8 c2, Value.int IntKind.u8 c3, Value.int IntKind.u8 c4,
                                                                  Value.int IntKind.u8 c5, Value.int IntKind.u8 c6, Value.int IntKind.u8 c7, Value.int IntKind.u8 c8, Value.int IntKind.u8 c9,
                                                                  Value.int IntKind.u8 c10, Value.int IntKind.u8 c11, Value.int IntKind.u8 c12, Value.int IntKind.u8 c13, Value.int IntKind.u8 c14,
                                                                  Value.int IntKind.u8 c15, Value.int IntKind.u8 c16, Value.int IntKind.u8 c17, Value.int IntKind.u8 c18, Value.int IntKind.u8 c19,
                                                                  Value.int IntKind.u8 c20, Value.int IntKind.u8 c21, Value.int IntKind.u8 c22, Value.int IntKind.u8 c23, Value.int IntKind.u8 c24,
                                                                  Value.int IntKind.u8 c25, Value.int IntKind.u8 c26, Value.int IntKind.u8 c27, Value.int IntKind.u8 c28, Value.int IntKind.u8 c29,
                                                                  Value.int IntKind.u8 c30, Value.int IntKind.u8 c31] =
                                                              Array.mk
                                                                [Value.int IntKind.u8 c0, Value.int IntKind.u8 c1, Value.int IntKind.u8 c2, Value.int IntKind.u8 c3, Value.int IntKind.u8 c4,
                                                                  Value.int IntKind.u8 c5, Value.int IntKind.u8 c6, Value.int IntKind.u8 c7, Value.int IntKind.u8 c8, Value.int IntKind.u8 c9,
                                                                  Value.int IntKind.u8 c10, Value.int IntKind.u8 c11, Value.int IntKind.u8 c12, Value.int IntKind.u8 c13, Value.int IntKind.u8 c14,
                                                                  Value.int IntKind.u8 c15, Value.int IntKind.u8 c16, Value.int IntKind.u8 c17, Value.int IntKind.u8 c18, Value.int IntKind.u8 c19,
                                                                  Value.int IntKind.u8 c20, Value.int IntKind.u8 c21, Value.int IntKind.u8 c22, Value.int IntKind.u8 c23, Value.int IntKind.u8 c24,
                                                                  Value.int IntKind.u8 c25, Value.int IntKind.u8 c26, Value.int IntKind.u8 c27, Value.int IntKind.u8 c28, Value.int IntKind.u8 c29,
                                                                  Value.int IntKind.u8 c30, Value.int IntKind.u8 c31] ∧
                                                            True)
                                                      False ∧
                                                    If
                                                        ((nMul
                                                                (nAdd (app b [c0, c1, c2, c3, c4, c5, c6, c7, c8, c9, c10, c11, c12, c13, c14, c15, c16, c17, c18, c19, c20, c21, c22]).length
                                                                  [c23].length)
                                                                1).ble
                                                            140737488355328 &&
                                                          (nAdd (app b [c0, c1, c2, c3, c4, c5, c6, c7, c8, c9, c10, c11, c12, c13, c14, c15, c16, c17, c18, c19, c20, c21, c22]).length [c23].length).ble
                                                            9223372036854775807)
                                                        ((Value.int IntKind.i64 (IntKind.i64.wrap (iAdd (iOf 23) 1)) = Value.int IntKind.i64 (iOf 24) ∧ True) ∧
                                                          EqI (app (app b [c0, c1, c2, c3, c4, c5, c6, c7, c8, c9, c10, c11, c12, c13, c14, c15, c16, c17, c18, c19, c20, c21, c22]) [c23])
                                                              (app b [c0, c1, c2, c3, c4, c5, c6, c7, c8, c9, c10, c11, c12, c13, c14, c15, c16, c17, c18, c19, c20, c21, c22, c23]) ∧
                                                            Array.mk
                                                                  [Value.int IntKind.u8 c0, Value.int IntKind.u8 c1, Value.int IntKind.u8 c2, Value.int IntKind.u8 c3, Value.int IntKind.u8 c4,
                                                                    Value.int IntKind.u8 c5, Value.int IntKind.u8 c6, Value.int IntKind.u8 c7, Value.int IntKind.u8 c8, Value.int IntKind.u8 c9,
                                                                    Value.int IntKind.u8 c10, Value.int IntKind.u8 c11, Value.int IntKind.u8 c12, Value.int IntKind.u8 c13, Value.int IntKind.u8 c14,
                                                                    Value.int IntKind.u8 c15, Value.int IntKind.u8 c16, Value.int IntKind.u8 c17, Value.int IntKind.u8 c18, Value.int IntKind.u8 c19,
                                                                    Value.int IntKind.u8 c20, Value.int IntKind.u8 c21, Value.int IntKind.u8 c22, Value.int IntKind.u8 c23, Value.int IntKind.u8 c24,
                                                                    Value.int IntKind.u8 c25, Value.int IntKind.u8 c26, Value.int IntKind.u8 c27, Value.int IntKind.u8 c28, Value.int IntKind.u8 c29,
                                                                    Value.int IntKind.u8 c30, Value.int IntKind.u8 c31] =
                                                                Array.mk
                                                                  [Value.int IntKind.u8 c0, Value.int IntKind.u8 c1, Value.int IntKind.u8 c2, Value.int IntKind.u8 c3, Value.int IntKind.u8 c4,
                                                                    Value.int IntKind.u8 c5, Value.int IntKind.u8 c6, Value.int IntKind.u8 c7, Value.int IntKind.u8 c8, Value.int IntKind.u8 c9,
                                                                    Value.int IntKind.u8 c10, Value.int IntKind.u8 c11, Value.int IntKind.u8 c12, Value.int IntKind.u8 c13, Value.int IntKind.u8 c14,
                                                                    Value.int IntKind.u8 c15, Value.int IntKind.u8 c16, Value.int IntKind.u8 c17, Value.int IntKind.u8 c18, Value.int IntKind.u8 c19,
                                                                    Value.int IntKind.u8 c20, Value.int IntKind.u8 c21, Value.int IntKind.u8 c22, Value.int IntKind.u8 c23, Value.int IntKind.u8 c24,
                                                                    Value.int IntKind.u8 c25, Value.int IntKind.u8 c26, Value.int IntKind.u8 c27, Value.int IntKind.u8 c28, Value.int IntKind.u8 c29,
                                                                    Value.int IntKind.u8 c30, Value.int IntKind.u8 c31] ∧
                                                              True)
                                                        False ∧
                                                      If
                                                          ((nMul
                                                                  (nAdd (app b [c0, c1, c2, c3, c4, c5, c6, c7, c8, c9, c10, c11, c12, c13, c14, c15, c16, c17, c18, c19, c20, c21, c22, c23]).length
                                                                    [c24].length)
                                                                  1).ble
                                                              140737488355328 &&
                                                            (nAdd (app b [c0, c1, c2, c3, c4, c5, c6, c7, c8, c9, c10, c11, c12, c13, c14, c15, c16, c17, c18, c19, c20, c21, c22, c23]).length
                                                                  [c24].length).ble
                                                              9223372036854775807)
                                                          ((Value.int IntKind.i64 (IntKind.i64.wrap (iAdd (iOf 24) 1)) = Value.int IntKind.i64 (iOf 25) ∧ True) ∧
                                                            EqI (app (app b [c0, c1, c2, c3, c4, c5, c6, c7, c8, c9, c10, c11, c12, c13, c14, c15, c16, c17, c18, c19, c20, c21, c22, c23]) [c24])
                                                                (app b [c0, c1, c2, c3, c4, c5, c6, c7, c8, c9, c10, c11, c12, c13, c14, c15, c16, c17, c18, c19, c20, c21, c22, c23, c24]) ∧
                                                              Array.mk
                                                                    [Value.int IntKind.u8 c0, Value.int IntKind.u8 c1, Value.int IntKind.u8 c2, Value.int IntKind.u8 c3, Value.int IntKind.u8 c4,
                                                                      Value.int IntKind.u8 c5, Value.int IntKind.u8 c6, Value.int IntKind.u8 c7, Value.int IntKind.u8 c8, Value.int IntKind.u8 c9,
                                                                      Value.int IntKind.u8 c10, Value.int IntKind.u8 c11, Value.int IntKind.u8 c12, Value.int IntKind.u8 c13, Value.int IntKind.u8 c14,
                                                                      Value.int IntKind.u8 c15, Value.int IntKind.u8 c16, Value.int IntKind.u8 c17, Value.int IntKind.u8 c18, Value.int IntKind.u8 c19,
                                                                      Value.int IntKind.u8 c20, Value.int IntKind.u8 c21, Value.int IntKind.u8 c22, Value.int IntKind.u8 c23, Value.int IntKind.u8 c24,
                                                                      Value.int IntKind.u8 c25, Value.int IntKind.u8 c26, Value.int IntKind.u8 c27, Value.int IntKind.u8 c28, Value.int IntKind.u8 c29,
                                                                      Value.int IntKind.u8 c30, Value.int IntKind.u8 c31] =
                                                                  Array.mk
                                                                    [Value.int IntKind.u8 c0, Value.int IntKind.u8 c1, Value.int IntKind.u8 c2, Value.int IntKind.u8 c3, Value.int IntKind.u8 c4,
                                                                      Value.int IntKind.u8 c5, Value.int IntKind.u8 c6, Value.int IntKind.u8 c7, Value.int IntKind.u8 c8, Value.int IntKind.u8 c9,
                                                                      Value.int IntKind.u8 c10, Value.int IntKind.u8 c11, Value.int IntKind.u8 c12, Value.int IntKind.u8 c13, Value.int IntKind.u8 c14,
                                                                      Value.int IntKind.u8 c15, Value.int IntKind.u8 c16, Value.int IntKind.u8 c17, Value.int IntKind.u8 c18, Value.int IntKind.u8 c19,
                                                                      Value.int IntKind.u8 c20, Value.int IntKind.u8 c21, Value.int IntKind.u8 c22, Value.int IntKind.u8 c23, Value.int IntKind.u8 c24,
                                                                      Value.int IntKind.u8 c25, Value.int IntKind.u8 c26, Value.int IntKind.u8 c27, Value.int IntKind.u8 c28, Value.int IntKind.u8 c29,
                                                                      Value.int IntKind.u8 c30, Value.int IntKind.u8 c31] ∧
                                                                True)
                                                          False ∧
                                                        If
                                                            ((nMul
                                                                    (nAdd
                                                                      (app b [c0, c1, c2, c3, c4, c5, c6, c7, c8, c9, c10, c11, c12, c13, c14, c15, c16, c17, c18, c19, c20, c21, c22, c23, c24]).length
                                                                      [c25].length)
                                                                    1).ble
                                                                140737488355328 &&
                                                              (nAdd (app b [c0, c1, c2, c3, c4, c5, c6, c7, c8, c9, c10, c11, c12, c13, c14, c15, c16, c17, c18, c19, c20, c21, c22, c23, c24]).length
                                                                    [c25].length).ble
                                                                9223372036854775807)
                                                            ((Value.int IntKind.i64 (IntKind.i64.wrap (iAdd (iOf 25) 1)) = Value.int IntKind.i64 (iOf 26) ∧ True) ∧
                                                              EqI (app (app b [c0, c1, c2, c3, c4, c5, c6, c7, c8, c9, c10, c11, c12, c13, c14, c15, c16, c17, c18, c19, c20, c21, c22, c23, c24]) [c25])
                                                                  (app b [c0, c1, c2, c3, c4, c5, c6, c7, c8, c9, c10, c11, c12, c13, c14, c15, c16, c17, c18, c19, c20, c21, c22, c23, c24, c25]) ∧
                                                                Array.mk
                                                                      [Value.int IntKind.u8 c0, Value.int IntKind.u8 c1, Value.int IntKind.u8 c2, Value.int IntKind.u8 c3, Value.int IntKind.u8 c4,
                                                                        Value.int IntKind.u8 c5, Value.int IntKind.u8 c6, Value.int IntKind.u8 c7, Value.int IntKind.u8 c8, Value.int IntKind.u8 c9,
                                                                        Value.int IntKind.u8 c10, Value.int IntKind.u8 c11, Value.int IntKind.u8 c12, Value.int IntKind.u8 c13, Value.int IntKind.u8 c14,
                                                                        Value.int IntKind.u8 c15, Value.int IntKind.u8 c16, Value.int IntKind.u8 c17, Value.int IntKind.u8 c18, Value.int IntKind.u8 c19,
                                                                        Value.int IntKind.u8 c20, Value.int IntKind.u8 c21, Value.int IntKind.u8 c22, Value.int IntKind.u8 c23, Value.int IntKind.u8 c24,
                                                                        Value.int IntKind.u8 c25, Value.int IntKind.u8 c26, Value.int IntKind.u8 c27, Value.int IntKind.u8 c28, Value.int IntKind.u8 c29,
                                                                        Value.int IntKind.u8 c30, Value.int IntKind.u8 c31] =
                                                                    Array.mk
                                                                      [Value.int IntKind.u8 c0, Value.int IntKind.u8 c1, Value.int IntKind.u8 c2, Value.int IntKind.u8 c3, Value.int IntKind.u8 c4,
                                                                        Value.int IntKind.u8 c5, Value.int IntKind.u8 c6, Value.int IntKind.u8 c7, Value.int IntKind.u8 c8, Value.int IntKind.u8 c9,
                                                                        Value.int IntKind.u8 c10, Value.int IntKind.u8 c11, Value.int IntKind.u8 c12, Value.int IntKind.u8 c13, Value.int IntKind.u8 c14,
                                                                        Value.int IntKind.u8 c15, Value.int IntKind.u8 c16, Value.int IntKind.u8 c17, Value.int IntKind.u8 c18, Value.int IntKind.u8 c19,
                                                                        Value.int IntKind.u8 c20, Value.int IntKind.u8 c21, Value.int IntKind.u8 c22, Value.int IntKind.u8 c23, Value.int IntKind.u8 c24,
                                                                        Value.int IntKind.u8 c25, Value.int IntKind.u8 c26, Value.int IntKind.u8 c27, Value.int IntKind.u8 c28, Value.int IntKind.u8 c29,
                                                                        Value.int IntKind.u8 c30, Value.int IntKind.u8 c31] ∧
                                                                  True)
                                                            False ∧
                                                          If
                                                              ((nMul
                                                                      (nAdd
                                                                        (app b
                                                                            [c0, c1, c2, c3, c4, c5, c6, c7, c8, c9, c10, c11, c12, c13, c14, c15, c16, c17, c18, c19, c20, c21, c22, c23, c24,
                                                                              c25]).length
                                                                        [c26].length)
                                                                      1).ble
                                                                  140737488355328 &&
                                                                (nAdd
                                                                      (app b
                                                                          [c0, c1, c2, c3, c4, c5, c6, c7, c8, c9, c10, c11, c12, c13, c14, c15, c16, c17, c18, c19, c20, c21, c22, c23, c24, c25]).length
                                                                      [c26].length).ble
                                                                  9223372036854775807)
                                                              ((Value.int IntKind.i64 (IntKind.i64.wrap (iAdd (iOf 26) 1)) = Value.int IntKind.i64 (iOf 27) ∧ True) ∧
                                                                EqI
                                                                    (app (app b [c0, c1, c2, c3, c4, c5, c6, c7, c8, c9, c10, c11, c12, c13, c14, c15, c16, c17, c18, c19, c20, c21, c22, c23, c24, c25])
                                                                      [c26])
                                                                    (app b
                                                                      [c0, c1, c2, c3, c4, c5, c6, c7, c8, c9, c10, c11, c12, c13, c14, c15, c16, c17, c18, c19, c20, c21, c22, c23, c24, c25, c26]) ∧
                                                                  Array.mk
                                                                        [Value.int IntKind.u8 c0, Value.int IntKind.u8 c1, Value.int IntKind.u8 c2, Value.int IntKind.u8 c3, Value.int IntKind.u8 c4,
                                                                          Value.int IntKind.u8 c5, Value.int IntKind.u8 c6, Value.int IntKind.u8 c7, Value.int IntKind.u8 c8, Value.int IntKind.u8 c9,
                                                                          Value.int IntKind.u8 c10, Value.int IntKind.u8 c11, Value.int IntKind.u8 c12, Value.int IntKind.u8 c13,
                                                                          Value.int IntKind.u8 c14, Value.int IntKind.u8 c15, Value.int IntKind.u8 c16, Value.int IntKind.u8 c17,
                                                                          Value.int IntKind.u8 c18, Value.int IntKind.u8 c19, Value.int IntKind.u8 c20, Value.int IntKind.u8 c21,
                                                                          Value.int IntKind.u8 c22, Value.int IntKind.u8 c23, Value.int IntKind.u8 c24, Value.int IntKind.u8 c25,
                                                                          Value.int IntKind.u8 c26, Value.int IntKind.u8 c27, Value.int IntKind.u8 c28, Value.int IntKind.u8 c29,
                                                                          Value.int IntKind.u8 c30, Value.int IntKind.u8 c31] =
                                                                      Array.mk
                                                                        [Value.int IntKind.u8 c0, Value.int IntKind.u8 c1, Value.int IntKind.u8 c2, Value.int IntKind.u8 c3, Value.int IntKind.u8 c4,
                                                                          Value.int IntKind.u8 c5, Value.int IntKind.u8 c6, Value.int IntKind.u8 c7, Value.int IntKind.u8 c8, Value.int IntKind.u8 c9,
                                                                          Value.int IntKind.u8 c10, Value.int IntKind.u8 c11, Value.int IntKind.u8 c12, Value.int IntKind.u8 c13,
                                                                          Value.int IntKind.u8 c14, Value.int IntKind.u8 c15, Value.int IntKind.u8 c16, Value.int IntKind.u8 c17,
                                                                          Value.int IntKind.u8 c18, Value.int IntKind.u8 c19, Value.int IntKind.u8 c20, Value.int IntKind.u8 c21,
                                                                          Value.int IntKind.u8 c22, Value.int IntKind.u8 c23, Value.int IntKind.u8 c24, Value.int IntKind.u8 c25,
                                                                          Value.int IntKind.u8 c26, Value.int IntKind.u8 c27, Value.int IntKind.u8 c28, Value.int IntKind.u8 c29,
                                                                          Value.int IntKind.u8 c30, Value.int IntKind.u8 c31] ∧
                                                                    True)
                                                              False ∧
                                                            If
                                                                ((nMul
                                                                        (nAdd
                                                                          (app b
                                                                              [c0, c1, c2, c3, c4, c5, c6, c7, c8, c9, c10, c11, c12, c13, c14, c15, c16, c17, c18, c19, c20, c21, c22, c23, c24, c25,
                                                                                c26]).length
                                                                          [c27].length)
                                                                        1).ble
                                                                    140737488355328 &&
                                                                  (nAdd
                                                                        (app b
                                                                            [c0, c1, c2, c3, c4, c5, c6, c7, c8, c9, c10, c11, c12, c13, c14, c15, c16, c17, c18, c19, c20, c21, c22, c23, c24, c25,
                                                                              c26]).length
                                                                        [c27].length).ble
                                                                    9223372036854775807)
                                                                ((Value.int IntKind.i64 (IntKind.i64.wrap (iAdd (iOf 27) 1)) = Value.int IntKind.i64 (iOf 28) ∧ True) ∧
                                                                  EqI
                                                                      (app
                                                                        (app b
                                                                          [c0, c1, c2, c3, c4, c5, c6, c7, c8, c9, c10, c11, c12, c13, c14, c15, c16, c17, c18, c19, c20, c21, c22, c23, c24, c25, c26])
                                                                        [c27])
                                                                      (app b
                                                                        [c0, c1, c2, c3, c4, c5, c6, c7, c8, c9, c10, c11, c12, c13, c14, c15, c16, c17, c18, c19, c20, c21, c22, c23, c24, c25, c26,
                                                                          c27]) ∧
                                                                    Array.mk
                                                                          [Value.int IntKind.u8 c0, Value.int IntKind.u8 c1, Value.int IntKind.u8 c2, Value.int IntKind.u8 c3, Value.int IntKind.u8 c4,
                                                                            Value.int IntKind.u8 c5, Value.int IntKind.u8 c6, Value.int IntKind.u8 c7, Value.int IntKind.u8 c8, Value.int IntKind.u8 c9,
                                                                            Value.int IntKind.u8 c10, Value.int IntKind.u8 c11, Value.int IntKind.u8 c12, Value.int IntKind.u8 c13,
                                                                            Value.int IntKind.u8 c14, Value.int IntKind.u8 c15, Value.int IntKind.u8 c16, Value.int IntKind.u8 c17,
                                                                            Value.int IntKind.u8 c18, Value.int IntKind.u8 c19, Value.int IntKind.u8 c20, Value.int IntKind.u8 c21,
                                                                            Value.int IntKind.u8 c22, Value.int IntKind.u8 c23, Value.int IntKind.u8 c24, Value.int IntKind.u8 c25,
                                                                            Value.int IntKind.u8 c26, Value.int IntKind.u8 c27, Value.int IntKind.u8 c28, Value.int IntKind.u8 c29,
                                                                            Value.int IntKind.u8 c30, Value.int IntKind.u8 c31] =
                                                                        Array.mk
                                                                          [Value.int IntKind.u8 c0, Value.int IntKind.u8 c1, Value.int IntKind.u8 c2, Value.int IntKind.u8 c3, Value.int IntKind.u8 c4,
                                                                            Value.int IntKind.u8 c5, Value.int IntKind.u8 c6, Value.int IntKind.u8 c7, Value.int IntKind.u8 c8, Value.int IntKind.u8 c9,
                                                                            Value.int IntKind.u8 c10, Value.int IntKind.u8 c11, Value.int IntKind.u8 c12, Value.int IntKind.u8 c13,
                                                                            Value.int IntKind.u8 c14, Value.int IntKind.u8 c15, Value.int IntKind.u8 c16, Value.int IntKind.u8 c17,
                                                                            Value.int IntKind.u8 c18, Value.int IntKind.u8 c19, Value.int IntKind.u8 c20, Value.int IntKind.u8 c21,
                                                                            Value.int IntKind.u8 c22, Value.int IntKind.u8 c23, Value.int IntKind.u8 c24, Value.int IntKind.u8 c25,
                                                                            Value.int IntKind.u8 c26, Value.int IntKind.u8 c27, Value.int IntKind.u8 c28, Value.int IntKind.u8 c29,
                                                                            Value.int IntKind.u8 c30, Value.int IntKind.u8 c31] ∧
                                                                      True)
                                                                False ∧
                                                              If
                                                                  ((nMul
                                                                          (nAdd
                                                                            (app b
                                                                                [c0, c1, c2, c3, c4, c5, c6, c7, c8, c9, c10, c11, c12, c13, c14, c15, c16, c17, c18, c19, c20, c21, c22, c23, c24, c25,
                                                                                  c26, c27]).length
                                                                            [c28].length)
                                                                          1).ble
                                                                      140737488355328 &&
                                                                    (nAdd
                                                                          (app b
                                                                              [c0, c1, c2, c3, c4, c5, c6, c7, c8, c9, c10, c11, c12, c13, c14, c15, c16, c17, c18, c19, c20, c21, c22, c23, c24, c25,
                                                                                c26, c27]).length
                                                                          [c28].length).ble
                                                                      9223372036854775807)
                                                                  ((Value.int IntKind.i64 (IntKind.i64.wrap (iAdd (iOf 28) 1)) = Value.int IntKind.i64 (iOf 29) ∧ True) ∧
                                                                    EqI
                                                                        (app
                                                                          (app b
                                                                            [c0, c1, c2, c3, c4, c5, c6, c7, c8, c9, c10, c11, c12, c13, c14, c15, c16, c17, c18, c19, c20, c21, c22, c23, c24, c25, c26,
                                                                              c27])
                                                                          [c28])
                                                                        (app b
                                                                          [c0, c1, c2, c3, c4, c5, c6, c7, c8, c9, c10, c11, c12, c13, c14, c15, c16, c17, c18, c19, c20, c21, c22, c23, c24, c25, c26,
                                                                            c27, c28]) ∧
                                                                      Array.mk
                                                                            [Value.int IntKind.u8 c0, Value.int IntKind.u8 c1, Value.int IntKind.u8 c2, Value.int IntKind.u8 c3, Value.int IntKind.u8 c4,
                                                                              Value.int IntKind.u8 c5, Value.int IntKind.u8 c6, Value.int IntKind.u8 c7, Value.int IntKind.u8 c8, Value.int IntKind.u8 c9,
                                                                              Value.int IntKind.u8 c10, Value.int IntKind.u8 c11, Value.int IntKind.u8 c12, Value.int IntKind.u8 c13,
                                                                              Value.int IntKind.u8 c14, Value.int IntKind.u8 c15, Value.int IntKind.u8 c16, Value.int IntKind.u8 c17,
                                                                              Value.int IntKind.u8 c18, Value.int IntKind.u8 c19, Value.int IntKind.u8 c20, Value.int IntKind.u8 c21,
                                                                              Value.int IntKind.u8 c22, Value.int IntKind.u8 c23, Value.int IntKind.u8 c24, Value.int IntKind.u8 c25,
                                                                              Value.int IntKind.u8 c26, Value.int IntKind.u8 c27, Value.int IntKind.u8 c28, Value.int IntKind.u8 c29,
                                                                              Value.int IntKind.u8 c30, Value.int IntKind.u8 c31] =
                                                                          Array.mk
                                                                            [Value.int IntKind.u8 c0, Value.int IntKind.u8 c1, Value.int IntKind.u8 c2, Value.int IntKind.u8 c3, Value.int IntKind.u8 c4,
                                                                              Value.int IntKind.u8 c5, Value.int IntKind.u8 c6, Value.int IntKind.u8 c7, Value.int IntKind.u8 c8, Value.int IntKind.u8 c9,
                                                                              Value.int IntKind.u8 c10, Value.int IntKind.u8 c11, Value.int IntKind.u8 c12, Value.int IntKind.u8 c13,
                                                                              Value.int IntKind.u8 c14, Value.int IntKind.u8 c15, Value.int IntKind.u8 c16, Value.int IntKind.u8 c17,
                                                                              Value.int IntKind.u8 c18, Value.int IntKind.u8 c19, Value.int IntKind.u8 c20, Value.int IntKind.u8 c21,
                                                                              Value.int IntKind.u8 c22, Value.int IntKind.u8 c23, Value.int IntKind.u8 c24, Value.int IntKind.u8 c25,
                                                                              Value.int IntKind.u8 c26, Value.int IntKind.u8 c27, Value.int IntKind.u8 c28, Value.int IntKind.u8 c29,
                                                                              Value.int IntKind.u8 c30, Value.int IntKind.u8 c31] ∧
                                                                        True)
                                                                  False ∧
                                                                If
                                                                    ((nMul
                                                                            (nAdd
                                                                              (app b
                                                                                  [c0, c1, c2, c3, c4, c5, c6, c7, c8, c9, c10, c11, c12, c13, c14, c15, c16, c17, c18, c19, c20, c21, c22, c23, c24, c25,
                                                                                    c26, c27, c28]).length
                                                                              [c29].length)
                                                                            1).ble
                                                                        140737488355328 &&
                                                                      (nAdd
                                                                            (app b
                                                                                [c0, c1, c2, c3, c4, c5, c6, c7, c8, c9, c10, c11, c12, c13, c14, c15, c16, c17, c18, c19, c20, c21, c22, c23, c24, c25,
                                                                                  c26, c27, c28]).length
                                                                            [c29].length).ble
                                                                        9223372036854775807)
                                                                    ((Value.int IntKind.i64 (IntKind.i64.wrap (iAdd (iOf 29) 1)) = Value.int IntKind.i64 (iOf 30) ∧ True) ∧
                                                                      EqI
                                                                          (app
                                                                            (app b
                                                                              [c0, c1, c2, c3, c4, c5, c6, c7, c8, c9, c10, c11, c12, c13, c14, c15, c16, c17, c18, c19, c20, c21, c22, c23, c24, c25,
                                                                                c26, c27, c28])
                                                                            [c29])
                                                                          (app b
                                                                            [c0, c1, c2, c3, c4, c5, c6, c7, c8, c9, c10, c11, c12, c13, c14, c15, c16, c17, c18, c19, c20, c21, c22, c23, c24, c25, c26,
                                                                              c27, c28, c29]) ∧
                                                                        Array.mk
                                                                              [Value.int IntKind.u8 c0, Value.int IntKind.u8 c1, Value.int IntKind.u8 c2, Value.int IntKind.u8 c3,
                                                                                Value.int IntKind.u8 c4, Value.int IntKind.u8 c5, Value.int IntKind.u8 c6, Value.int IntKind.u8 c7,
                                                                                Value.int IntKind.u8 c8, Value.int IntKind.u8 c9, Value.int IntKind.u8 c10, Value.int IntKind.u8 c11,
                                                                                Value.int IntKind.u8 c12, Value.int IntKind.u8 c13, Value.int IntKind.u8 c14, Value.int IntKind.u8 c15,
                                                                                Value.int IntKind.u8 c16, Value.int IntKind.u8 c17, Value.int IntKind.u8 c18, Value.int IntKind.u8 c19,
                                                                                Value.int IntKind.u8 c20, Value.int IntKind.u8 c21, Value.int IntKind.u8 c22, Value.int IntKind.u8 c23,
                                                                                Value.int IntKind.u8 c24, Value.int IntKind.u8 c25, Value.int IntKind.u8 c26, Value.int IntKind.u8 c27,
                                                                                Value.int IntKind.u8 c28, Value.int IntKind.u8 c29, Value.int IntKind.u8 c30, Value.int IntKind.u8 c31] =
                                                                            Array.mk
                                                                              [Value.int IntKind.u8 c0, Value.int IntKind.u8 c1, Value.int IntKind.u8 c2, Value.int IntKind.u8 c3,
                                                                                Value.int IntKind.u8 c4, Value.int IntKind.u8 c5, Value.int IntKind.u8 c6, Value.int IntKind.u8 c7,
                                                                                Value.int IntKind.u8 c8, Value.int IntKind.u8 c9, Value.int IntKind.u8 c10, Value.int IntKind.u8 c11,
                                                                                Value.int IntKind.u8 c12, Value.int IntKind.u8 c13, Value.int IntKind.u8 c14, Value.int IntKind.u8 c15,
                                                                                Value.int IntKind.u8 c16, Value.int IntKind.u8 c17, Value.int IntKind.u8 c18, Value.int IntKind.u8 c19,
                                                                                Value.int IntKind.u8 c20, Value.int IntKind.u8 c21, Value.int IntKind.u8 c22, Value.int IntKind.u8 c23,
                                                                                Value.int IntKind.u8 c24, Value.int IntKind.u8 c25, Value.int IntKind.u8 c26, Value.int IntKind.u8 c27,
                                                                                Value.int IntKind.u8 c28, Value.int IntKind.u8 c29, Value.int IntKind.u8 c30, Value.int IntKind.u8 c31] ∧
                                                                          True)
                                                                    False ∧
                                                                  If
                                                                      ((nMul
                                                                              (nAdd
                                                                                (app b
                                                                                    [c0, c1, c2, c3, c4, c5, c6, c7, c8, c9, c10, c11, c12, c13, c14, c15, c16, c17, c18, c19, c20, c21, c22, c23, c24,
                                                                                      c25, c26, c27, c28, c29]).length
                                                                                [c30].length)
                                                                              1).ble
                                                                          140737488355328 &&
                                                                        (nAdd
                                                                              (app b
                                                                                  [c0, c1, c2, c3, c4, c5, c6, c7, c8, c9, c10, c11, c12, c13, c14, c15, c16, c17, c18, c19, c20, c21, c22, c23, c24, c25,
                                                                                    c26, c27, c28, c29]).length
                                                                              [c30].length).ble
                                                                          9223372036854775807)
                                                                      ((Value.int IntKind.i64 (IntKind.i64.wrap (iAdd (iOf 30) 1)) = Value.int IntKind.i64 (iOf 31) ∧ True) ∧
                                                                        EqI
                                                                            (app
                                                                              (app b
                                                                                [c0, c1, c2, c3, c4, c5, c6, c7, c8, c9, c10, c11, c12, c13, c14, c15, c16, c17, c18, c19, c20, c21, c22, c23, c24, c25,
                                                                                  c26, c27, c28, c29])
                                                                              [c30])
                                                                            (app b
                                                                              [c0, c1, c2, c3, c4, c5, c6, c7, c8, c9, c10, c11, c12, c13, c14, c15, c16, c17, c18, c19, c20, c21, c22, c23, c24, c25,
                                                                                c26, c27, c28, c29, c30]) ∧
                                                                          Array.mk
                                                                                [Value.int IntKind.u8 c0, Value.int IntKind.u8 c1, Value.int IntKind.u8 c2, Value.int IntKind.u8 c3,
                                                                                  Value.int IntKind.u8 c4, Value.int IntKind.u8 c5, Value.int IntKind.u8 c6, Value.int IntKind.u8 c7,
                                                                                  Value.int IntKind.u8 c8, Value.int IntKind.u8 c9, Value.int IntKind.u8 c10, Value.int IntKind.u8 c11,
                                                                                  Value.int IntKind.u8 c12, Value.int IntKind.u8 c13, Value.int IntKind.u8 c14, Value.int IntKind.u8 c15,
                                                                                  Value.int IntKind.u8 c16, Value.int IntKind.u8 c17, Value.int IntKind.u8 c18, Value.int IntKind.u8 c19,
                                                                                  Value.int IntKind.u8 c20, Value.int IntKind.u8 c21, Value.int IntKind.u8 c22, Value.int IntKind.u8 c23,
                                                                                  Value.int IntKind.u8 c24, Value.int IntKind.u8 c25, Value.int IntKind.u8 c26, Value.int IntKind.u8 c27,
                                                                                  Value.int IntKind.u8 c28, Value.int IntKind.u8 c29, Value.int IntKind.u8 c30, Value.int IntKind.u8 c31] =
                                                                              Array.mk
                                                                                [Value.int IntKind.u8 c0, Value.int IntKind.u8 c1, Value.int IntKind.u8 c2, Value.int IntKind.u8 c3,
                                                                                  Value.int IntKind.u8 c4, Value.int IntKind.u8 c5, Value.int IntKind.u8 c6, Value.int IntKind.u8 c7,
                                                                                  Value.int IntKind.u8 c8, Value.int IntKind.u8 c9, Value.int IntKind.u8 c10, Value.int IntKind.u8 c11,
                                                                                  Value.int IntKind.u8 c12, Value.int IntKind.u8 c13, Value.int IntKind.u8 c14, Value.int IntKind.u8 c15,
                                                                                  Value.int IntKind.u8 c16, Value.int IntKind.u8 c17, Value.int IntKind.u8 c18, Value.int IntKind.u8 c19,
                                                                                  Value.int IntKind.u8 c20, Value.int IntKind.u8 c21, Value.int IntKind.u8 c22, Value.int IntKind.u8 c23,
                                                                                  Value.int IntKind.u8 c24, Value.int IntKind.u8 c25, Value.int IntKind.u8 c26, Value.int IntKind.u8 c27,
                                                                                  Value.int IntKind.u8 c28, Value.int IntKind.u8 c29, Value.int IntKind.u8 c30, Value.int IntKind.u8 c31] ∧
                                                                            True)
                                                                      False ∧
                                                                    If
                                                                        ((nMul
                                                                                (nAdd
                                                                                  (app b
                                                                                      [c0, c1, c2, c3, c4, c5, c6, c7, c8, c9, c10, c11, c12, c13, c14, c15, c16, c17, c18, c19, c20, c21, c22, c23, c24,
                                                                                        c25, c26, c27, c28, c29, c30]).length
                                                                                  [c31].length)
                                                                                1).ble
                                                                            140737488355328 &&
                                                                          (nAdd
                                                                                (app b
                                                                                    [c0, c1, c2, c3, c4, c5, c6, c7, c8, c9, c10, c11, c12, c13, c14, c15, c16, c17, c18, c19, c20, c21, c22, c23, c24,
                                                                                      c25, c26, c27, c28, c29, c30]).length
                                                                                [c31].length).ble
                                                                            9223372036854775807)
                                                                        ((Value.int IntKind.i64 (IntKind.i64.wrap (iAdd (iOf 31) 1)) = Value.int IntKind.i64 (iOf 32) ∧ True) ∧
                                                                          EqI
                                                                              (app
                                                                                (app b
                                                                                  [c0, c1, c2, c3, c4, c5, c6, c7, c8, c9, c10, c11, c12, c13, c14, c15, c16, c17, c18, c19, c20, c21, c22, c23, c24, c25,
                                                                                    c26, c27, c28, c29, c30])
                                                                                [c31])
                                                                              (app b
                                                                                [c0, c1, c2, c3, c4, c5, c6, c7, c8, c9, c10, c11, c12, c13, c14, c15, c16, c17, c18, c19, c20, c21, c22, c23, c24, c25,
                                                                                  c26, c27, c28, c29, c30, c31]) ∧
                                                                            Array.mk
                                                                                  [Value.int IntKind.u8 c0, Value.int IntKind.u8 c1, Value.int IntKind.u8 c2, Value.int IntKind.u8 c3,
                                                                                    Value.int IntKind.u8 c4, Value.int IntKind.u8 c5, Value.int IntKind.u8 c6, Value.int IntKind.u8 c7,
                                                                                    Value.int IntKind.u8 c8, Value.int IntKind.u8 c9, Value.int IntKind.u8 c10, Value.int IntKind.u8 c11,
                                                                                    Value.int IntKind.u8 c12, Value.int IntKind.u8 c13, Value.int IntKind.u8 c14, Value.int IntKind.u8 c15,
                                                                                    Value.int IntKind.u8 c16, Value.int IntKind.u8 c17, Value.int IntKind.u8 c18, Value.int IntKind.u8 c19,
                                                                                    Value.int IntKind.u8 c20, Value.int IntKind.u8 c21, Value.int IntKind.u8 c22, Value.int IntKind.u8 c23,
                                                                                    Value.int IntKind.u8 c24, Value.int IntKind.u8 c25, Value.int IntKind.u8 c26, Value.int IntKind.u8 c27,
                                                                                    Value.int IntKind.u8 c28, Value.int IntKind.u8 c29, Value.int IntKind.u8 c30, Value.int IntKind.u8 c31] =
                                                                                Array.mk
                                                                                  [Value.int IntKind.u8 c0, Value.int IntKind.u8 c1, Value.int IntKind.u8 c2, Value.int IntKind.u8 c3,
                                                                                    Value.int IntKind.u8 c4, Value.int IntKind.u8 c5, Value.int IntKind.u8 c6, Value.int IntKind.u8 c7,
                                                                                    Value.int IntKind.u8 c8, Value.int IntKind.u8 c9, Value.int IntKind.u8 c10, Value.int IntKind.u8 c11,
                                                                                    Value.int IntKind.u8 c12, Value.int IntKind.u8 c13, Value.int IntKind.u8 c14, Value.int IntKind.u8 c15,
                                                                                    Value.int IntKind.u8 c16, Value.int IntKind.u8 c17, Value.int IntKind.u8 c18, Value.int IntKind.u8 c19,
                                                                                    Value.int IntKind.u8 c20, Value.int IntKind.u8 c21, Value.int IntKind.u8 c22, Value.int IntKind.u8 c23,
                                                                                    Value.int IntKind.u8 c24, Value.int IntKind.u8 c25, Value.int IntKind.u8 c26, Value.int IntKind.u8 c27,
                                                                                    Value.int IntKind.u8 c28, Value.int IntKind.u8 c29, Value.int IntKind.u8 c30, Value.int IntKind.u8 c31] ∧
                                                                              True)
                                                                        False ∧
                                                                      (EqI
                                                                            (app b
                                                                              [c0, c1, c2, c3, c4, c5, c6, c7, c8, c9, c10, c11, c12, c13, c14, c15, c16, c17, c18, c19, c20, c21, c22, c23, c24, c25,
                                                                                c26, c27, c28, c29, c30, c31])
                                                                            (app b
                                                                              [c0, c1, c2, c3, c4, c5, c6, c7, c8, c9, c10, c11, c12, c13, c14, c15, c16, c17, c18, c19, c20, c21, c22, c23, c24, c25,
                                                                                c26, c27, c28, c29, c30, c31]) ∧
                                                                          True) ∧
                                                                        True)
    False := by
  have h1' := Nat.le_of_ble_eq_true h1
  have hl : ∀ l : List Int, l.length ≤ 40 → (Sx.app b l).length ≤ 1040 := fun l h => by simp only [Sx.app, List.length_append]; omega
  have ea : ∀ (l : List Int) (c : Int), Sx.app (Sx.app b l) [c] = Sx.app b (l ++ [c]) := fun l c => by simp [Sx.app]
  refine Sx.if_true (by simp only [Sx.nAdd, Sx.nMul, Bool.and_eq_true, Nat.ble_eq]; omega) ⟨⟨⟨rfl, trivial⟩, (by simp [Sx.app, Sx.EqI]), rfl, trivial⟩, Sx.if_true (app_fit (hl [] (Nat.le_of_ble_eq_true rfl)) (by decide)) ⟨⟨(by kernel_rfl), trivial⟩, ea [] c0, rfl, trivial⟩, Sx.if_true (app_fit (hl [c0] (Nat.le_of_ble_eq_true rfl)) (by decide)) ⟨⟨(by kernel_rfl), trivial⟩, ea [c0] c1, rfl, trivial⟩, Sx.if_true (app_fit (hl [c0, c1] (Nat.le_of_ble_eq_true rfl)) (by decide)) ⟨⟨(by kernel_rfl), trivial⟩, ea [c0, c1] c2, rfl, trivial⟩, Sx.if_true (app_fit (hl [c0, c1, c2] (Nat.le_of_ble_eq_true rfl)) (by decide)) ⟨⟨(by kernel_rfl), trivial⟩, ea [c0, c1, c2] c3, rfl, trivial⟩, Sx.if_true (app_fit (hl [c0, c1, c2, c3] (Nat.le_of_ble_eq_true rfl)) (by decide)) ⟨⟨(by kernel_rfl), trivial⟩, ea [c0, c1, c2, c3] c4, rfl, trivial⟩, Sx.if_true (app_fit (hl [c0, c1, c2, c3, c4] (Nat.le_of_ble_eq_true rfl)) (by decide)) ⟨⟨(by kernel_rfl), trivial⟩, ea [c0, c1, c2, c3, c4] c5, rfl, trivial⟩, Sx.if_true (app_fit (hl [c0, c1, c2, c3, c4, c5] (Nat.le_of_ble_eq_true rfl)) (by decide)) ⟨⟨(by kernel_rfl), trivial⟩, ea [c0, c1, c2, c3, c4, c5] c6, rfl, trivial⟩, Sx.if_true (app_fit (hl [c0, c1, c2, c3, c4, c5, c6] (Nat.le_of_ble_eq_true rfl)) (by decide)) ⟨⟨(by kernel_rfl), trivial⟩, ea [c0, c1, c2, c3, c4, c5, c6] c7, rfl, trivial⟩, Sx.if_true (app_fit (hl [c0, c1, c2, c3, c4, c5, c6, c7] (Nat.le_of_ble_eq_true rfl)) (by decide)) ⟨⟨(by kernel_rfl), trivial⟩, ea [c0, c1, c2, c3, c4, c5, c6, c7] c8, rfl, trivial⟩, Sx.if_true (app_fit (hl [c0, c1, c2, c3, c4, c5, c6, c7, c8] (Nat.le_of_ble_eq_true rfl)) (by decide)) ⟨⟨(by kernel_rfl), trivial⟩, ea [c0, c1, c2, c3, c4, c5, c6, c7, c8] c9, rfl, trivial⟩, Sx.if_true (app_fit (hl [c0, c1, c2, c3, c4, c5, c6, c7, c8, c9] (Nat.le_of_ble_eq_true rfl)) (by decide)) ⟨⟨(by kernel_rfl), trivial⟩, ea [c0, c1, c2, c3, c4, c5, c6, c7, c8, c9] c10, rfl, trivial⟩, Sx.if_true (app_fit (hl [c0, c1, c2, c3, c4, c5, c6, c7, c8, c9, c10] (Nat.le_of_ble_eq_true rfl)) (by decide)) ⟨⟨(by kernel_rfl), trivial⟩, ea [c0, c1, c2, c3, c4, c5, c6, c7, c8, c9, c10] c11, rfl, trivial⟩, Sx.if_true (app_fit (hl [c0, c1, c2, c3, c4, c5, c6, c7, c8, c9, c10, c11] (Nat.le_of_ble_eq_true rfl)) (by decide)) ⟨⟨(by kernel_rfl), trivial⟩, ea [c0, c1, c2, c3, c4, c5, c6, c7, c8, c9, c10, c11] c12, rfl, trivial⟩, Sx.if_true (app_fit (hl [c0, c1, c2, c3, c4, c5, c6, c7, c8, c9, c10, c11, c12] (Nat.le_of_ble_eq_true rfl)) (by decide)) ⟨⟨(by kernel_rfl), trivial⟩, ea [c0, c1, c2, c3, c4, c5, c6, c7, c8, c9, c10, c11, c12] c13, rfl, trivial⟩, Sx.if_true (app_fit (hl [c0, c1, c2, c3, c4, c5, c6, c7, c8, c9, c10, c11, c12, c13] (Nat.le_of_ble_eq_true rfl)) (by decide)) ⟨⟨(by kernel_rfl), trivial⟩, ea [c0, c1, c2, c3, c4, c5, c6, c7, c8, c9, c10, c11, c12, c13] c14, rfl, trivial⟩, Sx.if_true (app_fit (hl [c0, c1, c2, c3, c4, c5, c6, c7, c8, c9, c10, c11, c12, c13, c14] (Nat.le_of_ble_eq_true rfl)) (by decide)) ⟨⟨(by kernel_rfl), trivial⟩, ea [c0, c1, c2, c3, c4, c5, c6, c7, c8, c9, c10, c11, c12, c13, c14] c15, rfl, trivial⟩, Sx.if_true (app_fit (hl [c0, c1, c2, c3, c4, c5, c6, c7, c8, c9, c10, c11, c12, c13, c14, c15] (Nat.le_of_ble_eq_true rfl)) (by decide)) ⟨⟨(by kernel_rfl), trivial⟩, ea [c0, c1, c2, c3, c4, c5, c6, c7, c8, c9, c10, c11, c12, c13, c14, c15] c16, rfl, trivial⟩, Sx.if_true (app_fit (hl [c0, c1, c2, c3, c4, c5, c6, c7, c8, c9, c10, c11, c12, c13, c14, c15, c16] (Nat.le_of_ble_eq_true rfl)) (by decide)) ⟨⟨(by kernel_rfl), trivial⟩, ea [c0, c1, c2, c3, c4, c5, c6, c7, c8, c9, c10, c11, c12, c13, c14, c15, c16] c17, rfl, trivial⟩, Sx.if_true (app_fit (hl [c0, c1, c2, c3, c4, c5, c6, c7, c8, c9, c10, c11, c12, c13, c14, c15, c16, c17] (Nat.le_of_ble_eq_true rfl)) (by decide)) ⟨⟨(by kernel_rfl), trivial⟩, ea [c0, c1, c2, c3, c4, c5, c6, c7, c8, c9, c10, c11, c12, c13, c14, c15, c16, c17] c18, rfl, trivial⟩, Sx.if_true (app_fit (hl [c0, c1, c2, c3, c4, c5, c6, c7, c8, c9, c10, c11, c12, c13, c14, c15, c16, c17, c18] (Nat.le_of_ble_eq_true rfl)) (by decide)) ⟨⟨(by kernel_rfl), trivial⟩, ea [c0, c1, c2, c3, c4, c5, c6, c7, c8, c9, c10, c11, c12, c13, c14, c15, c16, c17, c18] c19, rfl, trivial⟩, Sx.if_true (app_fit (hl [c0, c1, c2, c3, c4, c5, c6, c7, c8, c9, c10, c11, c12, c13, c14, c15, c16, c17, c18, c19] (Nat.le_of_ble_eq_true rfl)) (by decide)) ⟨⟨(by kernel_rfl), trivial⟩, ea [c0, c1, c2, c3, c4, c5, c6, c7, c8, c9, c10, c11, c12, c13, c14, c15, c16, c17, c18, c19] c20, rfl, trivial⟩, Sx.if_true (app_fit (hl [c0, c1, c2, c3, c4, c5, c6, c7, c8, c9, c10, c11, c12, c13, c14, c15, c16, c17, c18, c19, c20] (Nat.le_of_ble_eq_true rfl)) (by decide)) ⟨⟨(by kernel_rfl), trivial⟩, ea [c0, c1, c2, c3, c4, c5, c6, c7, c8, c9, c10, c11, c12, c13, c14, c15, c16, c17, c18, c19, c20] c21, rfl, trivial⟩, Sx.if_true (app_fit (hl [c0, c1, c2, c3, c4, c5, c6, c7, c8, c9, c10, c11, c12, c13, c14, c15, c16, c17, c18, c19, c20, c21] (Nat.le_of_ble_eq_true rfl)) (by decide)) ⟨⟨(by kernel_rfl), trivial⟩, ea [c0, c1, c2, c3, c4, c5, c6, c7, c8, c9, c10, c11, c12, c13, c14, c15, c16, c17, c18, c19, c20, c21] c22, rfl, trivial⟩, Sx.if_true (app_fit (hl [c0, c1, c2, c3, c4, c5, c6, c7, c8, c9, c10, c11, c12, c13, c14, c15, c16, c17, c18, c19, c20, c21, c22] (Nat.le_of_ble_eq_true rfl)) (by decide)) ⟨⟨(by kernel_rfl), trivial⟩, ea [c0, c1, c2, c3, c4, c5, c6, c7, c8, c9, c10, c11, c12, c13, c14, c15, c16, c17, c18, c19, c20, c21, c22] c23, rfl, trivial⟩, Sx.if_true (app_fit (hl [c0, c1, c2, c3, c4, c5, c6, c7, c8, c9, c10, c11, c12, c13, c14, c15, c16, c17, c18, c19, c20, c21, c22, c23] (Nat.le_of_ble_eq_true rfl)) (by decide)) ⟨⟨(by kernel_rfl), trivial⟩, ea [c0, c1, c2, c3, c4, c5, c6, c7, c8, c9, c10, c11, c12, c13, c14, c15, c16, c17, c18, c19, c20, c21, c22, c23] c24, rfl, trivial⟩, Sx.if_true (app_fit (hl [c0, c1, c2, c3, c4, c5, c6, c7, c8, c9, c10, c11, c12, c13, c14, c15, c16, c17, c18, c19, c20, c21, c22, c23, c24] (Nat.le_of_ble_eq_true rfl)) (by decide)) ⟨⟨(by kernel_rfl), trivial⟩, ea [c0, c1, c2, c3, c4, c5, c6, c7, c8, c9, c10, c11, c12, c13, c14, c15, c16, c17, c18, c19, c20, c21, c22, c23, c24] c25, rfl, trivial⟩, Sx.if_true (app_fit (hl [c0, c1, c2, c3, c4, c5, c6, c7, c8, c9, c10, c11, c12, c13, c14, c15, c16, c17, c18, c19, c20, c21, c22, c23, c24, c25] (Nat.le_of_ble_eq_true rfl)) (by decide)) ⟨⟨(by kernel_rfl), trivial⟩, ea [c0, c1, c2, c3, c4, c5, c6, c7, c8, c9, c10, c11, c12, c13, c14, c15, c16, c17, c18, c19, c20, c21, c22, c23, c24, c25] c26, rfl, trivial⟩, Sx.if_true (app_fit (hl [c0, c1, c2, c3, c4, c5, c6, c7, c8, c9, c10, c11, c12, c13, c14, c15, c16, c17, c18, c19, c20, c21, c22, c23, c24, c25, c26] (Nat.le_of_ble_eq_true rfl)) (by decide)) ⟨⟨(by kernel_rfl), trivial⟩, ea [c0, c1, c2, c3, c4, c5, c6, c7, c8, c9, c10, c11, c12, c13, c14, c15, c16, c17, c18, c19, c20, c21, c22, c23, c24, c25, c26] c27, rfl, trivial⟩, Sx.if_true (app_fit (hl [c0, c1, c2, c3, c4, c5, c6, c7, c8, c9, c10, c11, c12, c13, c14, c15, c16, c17, c18, c19, c20, c21, c22, c23, c24, c25, c26, c27] (Nat.le_of_ble_eq_true rfl)) (by decide)) ⟨⟨(by kernel_rfl), trivial⟩, ea [c0, c1, c2, c3, c4, c5, c6, c7, c8, c9, c10, c11, c12, c13, c14, c15, c16, c17, c18, c19, c20, c21, c22, c23, c24, c25, c26, c27] c28, rfl, trivial⟩, Sx.if_true (app_fit (hl [c0, c1, c2, c3, c4, c5, c6, c7, c8, c9, c10, c11, c12, c13, c14, c15, c16, c17, c18, c19, c20, c21, c22, c23, c24, c25, c26, c27, c28] (Nat.le_of_ble_eq_true rfl)) (by decide)) ⟨⟨(by kernel_rfl), trivial⟩, ea [c0, c1, c2, c3, c4, c5, c6, c7, c8, c9, c10, c11, c12, c13, c14, c15, c16, c17, c18, c19, c20, c21, c22, c23, c24, c25, c26, c27, c28] c29, rfl, trivial⟩, Sx.if_true (app_fit (hl [c0, c1, c2, c3, c4, c5, c6, c7, c8, c9, c10, c11, c12, c13, c14, c15, c16, c17, c18, c19, c20, c21, c22, c23, c24, c25, c26, c27, c28, c29] (Nat.le_of_ble_eq_true rfl)) (by decide)) ⟨⟨(by kernel_rfl), trivial⟩, ea [c0, c1, c2, c3, c4, c5, c6, c7, c8, c9, c10, c11, c12, c13, c14, c15, c16, c17, c18, c19, c20, c21, c22, c23, c24, c25, c26, c27, c28, c29] c30, rfl, trivial⟩, Sx.if_true (app_fit (hl [c0, c1, c2, c3, c4, c5, c6, c7, c8, c9, c10, c11, c12, c13, c14, c15, c16, c17, c18, c19, c20, c21, c22, c23, c24, c25, c26, c27, c28, c29, c30] (Nat.le_of_ble_eq_true rfl)) (by decide)) ⟨⟨(by kernel_rfl), trivial⟩, ea [c0, c1, c2, c3, c4, c5, c6, c7, c8, c9, c10, c11, c12, c13, c14, c15, c16, c17, c18, c19, c20, c21, c22, c23, c24, c25, c26, c27, c28, c29, c30] c31, rfl, trivial⟩, ?_, trivial⟩
  exact ⟨rfl, trivial⟩
theorem wpc_putH (O : OO) (Y : OY) (b : List Int) (c0 c1 c2 c3 c4 c5 c6 c7 c8 c9 c10 c11 c12 c13 c14 c15 c16 c17 c18 c19 c20 c21 c22 c23 c24 c25 c26 c27 c28 c29 c30 c31 : Int) (F : FO O) (hy : Y = yO O) (h1 : Nat.ble b.length 1000 = true) : wpcI Try.prog (spY0 O Y) Try.f111.ntmps [⟨Nat, [3], [(5, 5, .ints .u8 [])], fun B r => [(5, .row B), (6, .v (.int .i64 (r : Int)))], fun B r => [(B, .own 5 (.ints .u8 (b ++ List.take r [c0, c1, c2, c3, c4, c5, c6, c7, c8, c9, c10, c11, c12, c13, c14, c15, c16, c17, c18, c19, c20, c21, c22, c23, c24, c25, c26, c27, c28, c29, c30, c31])))], fun _ => True, fun _ => 0, .join 33 fun r => r⟩] (bodyOf Try.f111) 0 64 (envA [.ro .u8, .v] [.ints b, .v (.agg ⟨[.int .u8 c0, .int .u8 c1, .int .u8 c2, .int .u8 c3, .int .u8 c4, .int .u8 c5, .int .u8 c6, .int .u8 c7, .int .u8 c8, .int .u8 c9, .int .u8 c10, .int .u8 c11, .int .u8 c12, .int .u8 c13, .int .u8 c14, .int .u8 c15, .int .u8 c16, .int .u8 c17, .int .u8 c18, .int .u8 c19, .int .u8 c20, .int .u8 c21, .int .u8 c22, .int .u8 c23, .int .u8 c24, .int .u8 c25, .int .u8 c26, .int .u8 c27, .int .u8 c28, .int .u8 c29, .int .u8 c30, .int .u8 c31]⟩)] 0) (memA [.ro .u8, .v] [.ints b, .v (.agg ⟨[.int .u8 c0, .int .u8 c1, .int .u8 c2, .int .u8 c3, .int .u8 c4, .int .u8 c5, .int .u8 c6, .int .u8 c7, .int .u8 c8, .int .u8 c9, .int .u8 c10, .int .u8 c11, .int .u8 c12, .int .u8 c13, .int .u8 c14, .int .u8 c15, .int .u8 c16, .int .u8 c17, .int .u8 c18, .int .u8 c19, .int .u8 c20, .int .u8 c21, .int .u8 c22, .int .u8 c23, .int .u8 c24, .int .u8 c25, .int .u8 c26, .int .u8 c27, .int .u8 c28, .int .u8 c29, .int .u8 c30, .int .u8 c31]⟩)] 0) (retG Try.prog Try.f111.results.toList [.ints 5 .u8 (b ++ [c0, c1, c2, c3, c4, c5, c6, c7, c8, c9, c10, c11, c12, c13, c14, c15, c16, c17, c18, c19, c20, c21, c22, c23, c24, c25, c26, c27, c28, c29, c30, c31])]) :=
  Eq.mpr (by kernel_rfl) (vc_putH O Y b c0 c1 c2 c3 c4 c5 c6 c7 c8 c9 c10 c11 c12 c13 c14 c15 c16 c17 c18 c19 c20 c21 c22 c23 c24 c25 c26 c27 c28 c29 c30 c31 F hy h1)
theorem ok_putH (I : Sx.Interp) (O : OO) (hO : O = oo) (Y : OY) (hY : Y = yO O) : Sx.SpecOK I Try.prog 111 (gspec [.ro .u8, .v] (g_putH O Y)) := by
  refine spec_genA (spY0_ok I O hO Y hY) (by kernel_rfl) (fun xs => match xs with | [.ints b, .v (.agg ⟨[.int .u8 c0, .int .u8 c1, .int .u8 c2, .int .u8 c3, .int .u8 c4, .int .u8 c5, .int .u8 c6, .int .u8 c7, .int .u8 c8, .int .u8 c9, .int .u8 c10, .int .u8 c11, .int .u8 c12, .int .u8 c13, .int .u8 c14, .int .u8 c15, .int .u8 c16, .int .u8 c17, .int .u8 c18, .int .u8 c19, .int .u8 c20, .int .u8 c21, .int .u8 c22, .int .u8 c23, .int .u8 c24, .int .u8 c25, .int .u8 c26, .int .u8 c27, .int .u8 c28, .int .u8 c29, .int .u8 c30, .int .u8 c31]⟩)] => [⟨Nat, [3], [(5, 5, .ints .u8 [])], fun B r => [(5, .row B), (6, .v (.int .i64 (r : Int)))], fun B r => [(B, .own 5 (.ints .u8 (b ++ List.take r [c0, c1, c2, c3, c4, c5, c6, c7, c8, c9, c10, c11, c12, c13, c14, c15, c16, c17, c18, c19, c20, c21, c22, c23, c24, c25, c26, c27, c28, c29, c30, c31])))], fun _ => True, fun _ => 0, .join 33 fun r => r⟩] | _ => []) Try.func111 (by kernel_rfl) (by kernel_rfl) rfl Try.ntmps111 (by decide) ?_ ?_
  · intro xs p rs h; unfold g_putH at h; split at h <;> first | (simp only [Option.some.injEq, Prod.mk.injEq] at h; rw [← h.2]; simp) | cases h
  · intro xs rs hl h
    unfold g_putH at h
    split at h
    · simp only [Option.some.injEq, Prod.mk.injEq, Bool.and_eq_true] at h
      obtain ⟨h1, rfl⟩ := h
      exact wpcI_of (wpc_putH O Y _ _ _ _ _ _ _ _ _ _ _ _ _ _ _ _ _ _ _ _ _ _ _ _ _ _ _ _ _ _ _ _ _ (fo_oo O hO) hY h1)
    · cases h
def g_keight (O : OO) (Y : OY) (ds : List Dt) : Option (Bool × List Bool × (List Bool → Post)) := match ds with
  | [.v (.int .u64 n)] => some ((inU n 18446744073709551616), [], fun bs => ⟨[.sl 0 0 8 8], [(0, .arr 95 8 ⟨(tabI (fun i => (O.be8 n).getD i 0) 8).map (Value.int .u8)⟩)]⟩)
  | _ => none
set_option maxHeartbeats 4000000 in
theorem vc_keight (O : OO) (Y : OY) (n : Int) (F : FO O) (hy : Y = yO O) (h0 : inU n 18446744073709551616 = true) (hb : O.be8 = be8Z) :
  (0 = 0 ∧ 8 = 8 ∧ 8 = 8) ∧
    True ∧
      Array.mk
            [Value.int IntKind.u8 (IntKind.u8.wrap (n.fdiv (iPow 2 56))), Value.int IntKind.u8 (IntKind.u8.wrap (n.fdiv (iPow 2 48))), Value.int IntKind.u8 (IntKind.u8.wrap (n.fdiv (iPow 2 40))),
              Value.int IntKind.u8 (IntKind.u8.wrap (n.fdiv (iPow 2 32))), Value.int IntKind.u8 (IntKind.u8.wrap (n.fdiv (iPow 2 24))), Value.int IntKind.u8 (IntKind.u8.wrap (n.fdiv (iPow 2 16))),
              Value.int IntKind.u8 (IntKind.u8.wrap (n.fdiv (iPow 2 8))), Value.int IntKind.u8 (IntKind.u8.wrap (n.fdiv (iPow 2 0)))] =
          Array.mk (List.map (Value.int IntKind.u8) (tabI (fun (i : Nat) => (O.be8 n).getD i 0) 8)) ∧
        True := by
  refine ⟨⟨rfl, rfl, rfl⟩, trivial, ?_, trivial⟩
  rw [hb]
  kernel_rfl
theorem wpc_keight (O : OO) (Y : OY) (n : Int) (F : FO O) (hy : Y = yO O) (h0 : inU n 18446744073709551616 = true) (hb : O.be8 = be8Z) : wpcI Try.prog (spY0 O Y) Try.f114.ntmps [Ann.walk 9] (bodyOf Try.f114) 0 64 (envP (mks [.v] [.v (.int .u64 n)] 0).1 0) (mks [.v] [.v (.int .u64 n)] 0).2 (retP Try.prog Try.f114.results.toList 0 ((fun bs : List Bool => (⟨[.sl 0 0 8 8], [(0, .arr 95 8 ⟨(tabI (fun i => (O.be8 n).getD i 0) 8).map (Value.int .u8)⟩)]⟩ : Post)) ([] : List Bool))) :=
  Eq.mpr (by kernel_rfl) (vc_keight O Y n F hy h0 hb)
theorem ok_keight (I : Sx.Interp) (O : OO) (hO : O = oo) (Y : OY) (hY : Y = yO O) : Sx.SpecOK I Try.prog 114 (pspec [.v] false (g_keight O Y)) := by
  refine spec_pat (spY0_ok I O hO Y hY) (by kernel_rfl) (fun _ => [Ann.walk 9]) Try.func114 (by kernel_rfl) (by kernel_rfl) rfl Try.ntmps114 (by decide) ?_ ?_
  · intro ds p bs F h
    unfold g_keight at h
    split at h
    · simp only [Option.some.injEq, Prod.mk.injEq] at h
      obtain ⟨_, _, rfl⟩ := h
      kernel_rfl
    · cases h
  · intro ds bs F hl h
    unfold g_keight at h
    split at h
    · simp only [Option.some.injEq, Prod.mk.injEq, Bool.and_eq_true] at h
      obtain ⟨h0, rfl, rfl⟩ := h
      exact wpcI_of (wpc_keight O Y _ (fo_oo O hO) hY h0 (by subst hO; kernel_rfl))
    · cases h
def spY1 (O : OO) (Y : OY) (f : FuncId) : Option Sx.Spec := match f with
  | 110 => some (Sx.vspec (g_placed O Y))
  | 113 => some (Sx.vspec (g_rplace O Y))
  | 109 => some (Sx.vspec (g_come O Y))
  | 112 => some (Sx.vspec (g_to O Y))
  | 115 => some (gspec [.ro .u8, .v] (g_putU O Y))
  | 111 => some (gspec [.ro .u8, .v] (g_putH O Y))
  | 114 => some (pspec [.v] false (g_keight O Y))
  | f => spY0 O Y f
theorem spY1_ok (I : Sx.Interp) (O : OO) (hO : O = oo) (Y : OY) (hY : Y = yO O) : ∀ f s, spY1 O Y f = some s → Sx.SpecOK I Try.prog f s := by
  intro f s h
  unfold spY1 at h
  split at h
  · cases h; exact ok_placed I O hO Y hY
  · cases h; exact ok_rplace I O hO Y hY
  · cases h; exact ok_come I O hO Y hY
  · cases h; exact ok_to I O hO Y hY
  · cases h; exact ok_putU I O hO Y hY
  · cases h; exact ok_putH I O hO Y hY
  · cases h; exact ok_keight I O hO Y hY
  · exact spY0_ok I O hO Y hY _ s h
def g_fac (O : OO) (Y : OY) (xs : List Arg) : Option (Bool × List Ret) := match xs with
  | [.v (.string s), .ints [a, b]] => some ((inU a 18446744073709551616) && (inU b 18446744073709551616) && (Nat.ble s.size 1000), [.v (.int .u64 (Y.fac s a b))])
  | _ => none
set_option maxHeartbeats 4000000 in
theorem vc_fac (O : OO) (Y : OY) (s : ByteArray) (a b : Int) (F : FO O) (hy : Y = yO O) (h0 : inU a 18446744073709551616 = true) (h1 : inU b 18446744073709551616 = true) (h2 : Nat.ble s.size 1000 = true) :
  If (inU ([a, b].getD 0 0) 18446744073709551616)
    (If (inU ([a, b].getD 1 0) 18446744073709551616)
      (If
        ((tagN (ByteArray.rec (fun (data : Array UInt8) => (fun (data : Array UInt8) => (fun (bs : Array UInt8) => bs.size) data) data) s)
              [[(O.be8 ([a, b].getD 0 0)).getD 0 0, (O.be8 ([a, b].getD 0 0)).getD 1 0, (O.be8 ([a, b].getD 0 0)).getD 2 0, (O.be8 ([a, b].getD 0 0)).getD 3 0, (O.be8 ([a, b].getD 0 0)).getD 4 0,
                  (O.be8 ([a, b].getD 0 0)).getD 5 0, (O.be8 ([a, b].getD 0 0)).getD 6 0, (O.be8 ([a, b].getD 0 0)).getD 7 0],
                [(O.be8 ([a, b].getD 1 0)).getD 0 0, (O.be8 ([a, b].getD 1 0)).getD 1 0, (O.be8 ([a, b].getD 1 0)).getD 2 0, (O.be8 ([a, b].getD 1 0)).getD 3 0, (O.be8 ([a, b].getD 1 0)).getD 4 0,
                  (O.be8 ([a, b].getD 1 0)).getD 5 0, (O.be8 ([a, b].getD 1 0)).getD 6 0, (O.be8 ([a, b].getD 1 0)).getD 7 0]]).ble
          1099511627776)
        (If
          (decide
            (O.isH
                (Array.mk
                  (List.map (Value.int IntKind.u8)
                    (tabI
                      (O.tag s
                        [[(fun (i : Nat) => (O.be8 ([a, b].getD (Int.toNat 0) 0)).getD i 0) 0, (fun (i : Nat) => (O.be8 ([a, b].getD (Int.toNat 0) 0)).getD i 0) 1,
                            (fun (i : Nat) => (O.be8 ([a, b].getD (Int.toNat 0) 0)).getD i 0) 2, (fun (i : Nat) => (O.be8 ([a, b].getD (Int.toNat 0) 0)).getD i 0) 3,
                            (fun (i : Nat) => (O.be8 ([a, b].getD (Int.toNat 0) 0)).getD i 0) 4, (fun (i : Nat) => (O.be8 ([a, b].getD (Int.toNat 0) 0)).getD i 0) 5,
                            (fun (i : Nat) => (O.be8 ([a, b].getD (Int.toNat 0) 0)).getD i 0) 6, (fun (i : Nat) => (O.be8 ([a, b].getD (Int.toNat 0) 0)).getD i 0) 7],
                          [(fun (i : Nat) => (O.be8 ([a, b].getD (IntKind.i64.wrap (iAdd 0 1)).toNat 0)).getD i 0) 0,
                            (fun (i : Nat) => (O.be8 ([a, b].getD (IntKind.i64.wrap (iAdd 0 1)).toNat 0)).getD i 0) 1,
                            (fun (i : Nat) => (O.be8 ([a, b].getD (IntKind.i64.wrap (iAdd 0 1)).toNat 0)).getD i 0) 2,
                            (fun (i : Nat) => (O.be8 ([a, b].getD (IntKind.i64.wrap (iAdd 0 1)).toNat 0)).getD i 0) 3,
                            (fun (i : Nat) => (O.be8 ([a, b].getD (IntKind.i64.wrap (iAdd 0 1)).toNat 0)).getD i 0) 4,
                            (fun (i : Nat) => (O.be8 ([a, b].getD (IntKind.i64.wrap (iAdd 0 1)).toNat 0)).getD i 0) 5,
                            (fun (i : Nat) => (O.be8 ([a, b].getD (IntKind.i64.wrap (iAdd 0 1)).toNat 0)).getD i 0) 6,
                            (fun (i : Nat) => (O.be8 ([a, b].getD (IntKind.i64.wrap (iAdd 0 1)).toNat 0)).getD i 0) 7]])
                      32))) =
              true))
          (Value.int IntKind.u64
                (O.ffrom
                  (Array.mk
                    (List.map (Value.int IntKind.u8)
                      (tabI
                        (O.tag s
                          [[(O.be8 ([a, b].getD 0 0)).getD 0 0, (O.be8 ([a, b].getD 0 0)).getD 1 0, (O.be8 ([a, b].getD 0 0)).getD 2 0, (O.be8 ([a, b].getD 0 0)).getD 3 0,
                              (O.be8 ([a, b].getD 0 0)).getD 4 0, (O.be8 ([a, b].getD 0 0)).getD 5 0, (O.be8 ([a, b].getD 0 0)).getD 6 0, (O.be8 ([a, b].getD 0 0)).getD 7 0],
                            [(O.be8 ([a, b].getD 1 0)).getD 0 0, (O.be8 ([a, b].getD 1 0)).getD 1 0, (O.be8 ([a, b].getD 1 0)).getD 2 0, (O.be8 ([a, b].getD 1 0)).getD 3 0,
                              (O.be8 ([a, b].getD 1 0)).getD 4 0, (O.be8 ([a, b].getD 1 0)).getD 5 0, (O.be8 ([a, b].getD 1 0)).getD 6 0, (O.be8 ([a, b].getD 1 0)).getD 7 0]])
                        32)))) =
              Value.int IntKind.u64 (Y.fac s a b) ∧
            True)
          False)
        False)
      False)
    False := by
  have h2' := Nat.le_of_ble_eq_true h2
  have t8 : ∀ n, [(O.be8 n).getD 0 0, (O.be8 n).getD 1 0, (O.be8 n).getD 2 0, (O.be8 n).getD 3 0, (O.be8 n).getD 4 0, (O.be8 n).getD 5 0, (O.be8 n).getD 6 0, (O.be8 n).getD 7 0] = O.be8 n := fun n => tab_self (F.b8 n)
  have e : facO O s a b = O.ffrom (AV (O.tag s [[(O.be8 a).getD 0 0, (O.be8 a).getD 1 0, (O.be8 a).getD 2 0, (O.be8 a).getD 3 0, (O.be8 a).getD 4 0, (O.be8 a).getD 5 0, (O.be8 a).getD 6 0, (O.be8 a).getD 7 0], [(O.be8 b).getD 0 0, (O.be8 b).getD 1 0, (O.be8 b).getD 2 0, (O.be8 b).getD 3 0, (O.be8 b).getD 4 0, (O.be8 b).getD 5 0, (O.be8 b).getD 6 0, (O.be8 b).getD 7 0]])) := by unfold facO; rw [t8 a, t8 b]
  refine Sx.if_true h0 (Sx.if_true h1 (Sx.if_true (tag2 (n := s.size) (by simp only [List.length_cons, List.length_nil]; omega)) (Sx.if_true (decide_eq_true (F.tH _ _)) ⟨?_, trivial⟩)))
  rw [hy, show (yO O).fac s a b = facO O s a b from rfl, e]
  rfl
theorem wpc_fac (O : OO) (Y : OY) (s : ByteArray) (a b : Int) (F : FO O) (hy : Y = yO O) (h0 : inU a 18446744073709551616 = true) (h1 : inU b 18446744073709551616 = true) (h2 : Nat.ble s.size 1000 = true) : wpcI Try.prog (spY1 O Y) Try.f82.ntmps [Ann.walk 3] (bodyOf Try.f82) 0 64 (envA [.v, .ro .u64] [.v (.string s), .ints [a, b]] 0) (memA [.v, .ro .u64] [.v (.string s), .ints [a, b]] 0) (retG Try.prog Try.f82.results.toList [.v (.int .u64 (Y.fac s a b))]) :=
  Eq.mpr (by kernel_rfl) (vc_fac O Y s a b F hy h0 h1 h2)
theorem ok_fac (I : Sx.Interp) (O : OO) (hO : O = oo) (Y : OY) (hY : Y = yO O) : Sx.SpecOK I Try.prog 82 (gspec [.v, .ro .u64] (g_fac O Y)) := by
  refine spec_gen (spY1_ok I O hO Y hY) (by kernel_rfl) [Ann.walk 3] Try.func82 (by kernel_rfl) (by kernel_rfl) rfl Try.ntmps82 (by decide) ?_ ?_
  · intro xs p rs h; unfold g_fac at h; split at h <;> first | (simp only [Option.some.injEq, Prod.mk.injEq] at h; rw [← h.2]; simp) | cases h
  · intro xs rs hl h
    unfold g_fac at h
    split at h
    · simp only [Option.some.injEq, Prod.mk.injEq, Bool.and_eq_true] at h
      obtain ⟨⟨⟨h0, h1⟩, h2⟩, rfl⟩ := h
      exact wpcI_of (wpc_fac O Y _ _ _ (fo_oo O hO) hY h0 h1 h2)
    · cases h
def g_Fac (O : OO) (Y : OY) (l : List Value) : Option (Bool × Value) := match l with
  | [.string s, .int .u64 a, .int .u64 b] => some ((inU a 18446744073709551616) && (inU b 18446744073709551616) && (Nat.ble s.size 1000), .int .u64 (Y.fac s a b))
  | _ => none
set_option maxHeartbeats 4000000 in
theorem vc_Fac (O : OO) (Y : OY) (a b : Int) (s : ByteArray) (out : Value) (F : FO O) (hy : Y = yO O) (h0 : inU a 18446744073709551616 = true) (h1 : inU b 18446744073709551616 = true) (h2 : Nat.ble s.size 1000 = true) (ho : .int .u64 (Y.fac s a b) = out) :
  If (inU a 18446744073709551616 && Nat.ble 0 1000)
    (If (inU b 18446744073709551616 && Nat.ble 0 1000)
      (If ((tagN (ByteArray.rec (fun (data : Array UInt8) => (fun (data : Array UInt8) => (fun (bs : Array UInt8) => bs.size) data) data) s) [app [] (O.be8 a), app [] (O.be8 b)]).ble 1099511627776)
        (If (decide (O.isH (Array.mk (List.map (Value.int IntKind.u8) (tabI (O.tag s [app [] (O.be8 a), app [] (O.be8 b)]) 32))) = true))
          (Value.int IntKind.u64 (O.ffrom (Array.mk (List.map (Value.int IntKind.u8) (tabI (O.tag s [app [] (O.be8 a), app [] (O.be8 b)]) 32)))) = out) False)
        False)
      False)
    False := by
  have h2' := Nat.le_of_ble_eq_true h2
  refine Sx.if_true (by rw [h0]; rfl) (Sx.if_true (by rw [h1]; rfl) (Sx.if_true (tag2 (n := s.size) (by simp only [Sx.app, List.nil_append, F.b8]; omega)) (Sx.if_true (decide_eq_true (F.tH _ _)) ?_)))
  rw [← ho, hy]
  rfl
theorem wpc_Fac (O : OO) (Y : OY) (a b : Int) (s : ByteArray) (out : Value) (F : FO O) (hy : Y = yO O) (h0 : inU a 18446744073709551616 = true) (h1 : inU b 18446744073709551616 = true) (h2 : Nat.ble s.size 1000 = true) (ho : .int .u64 (Y.fac s a b) = out) : wpcI Try.prog (spY1 O Y) Try.f83.ntmps [] (bodyOf Try.f83) 0 0 (argEnv [.string s, .int .u64 a, .int .u64 b] 0) [] (retK Try.prog Try.f83.results.toList out) :=
  Eq.mpr (by kernel_rfl) (vc_Fac O Y a b s out F hy h0 h1 h2 ho)
theorem ok_Fac (I : Sx.Interp) (O : OO) (hO : O = oo) (Y : OY) (hY : Y = yO O) : Sx.SpecOK I Try.prog 83 (Sx.vspec (g_Fac O Y)) := by
  refine spec_walk (n := 3) (spY1_ok I O hO Y hY) (by kernel_rfl) [] Try.func83 (by kernel_rfl) (by kernel_rfl) rfl Try.ntmps83 (by decide) ?_ ?_
  · intro l p v hg; unfold g_Fac at hg; split at hg <;> first | rfl | cases hg
  · intro l v hg
    unfold g_Fac at hg
    split at hg
    · rename_i s a b
      simp only [Option.some.injEq, Prod.mk.injEq, Bool.and_eq_true] at hg
      obtain ⟨⟨⟨q0, q1⟩, q2⟩, rfl⟩ := hg
      exact wpc_Fac O Y a b s  _ (fo_oo O hO) hY q0 q1 q2  rfl
    · cases hg
end Go.Proofs.Ytheihhjlkefhgaa
