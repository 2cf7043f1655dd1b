/- KeysStored: the walk, by the symbolic machine (printed by genKs.py; VCs by VcTool). -/
import Derived.Test.YtheihhjlkefhgaaDoorKy2
import Derived.Test.YtheihhjlkefhgaaDoorSs
namespace Go.Proofs.YtheihhjlkefhgaaDoor
open Go.RowKit Go.Lib Ckp Cfd Cpd Sx
set_option linter.unusedVariables false
set_option linter.unusedSimpArgs false
set_option maxRecDepth 1000000
def I0 : Sx.Interp := ⟨fun _ _ _ _ _ => False, fun _ _ _ _ _ _ _ h => h, fun _ => True, fun _ => False, fun _ _ _ h => h⟩
def spKs0 (O : OO) (Z : OZ) (Y : OY) (f : FuncId) : Option Sx.Spec := match spY5 O Y f with
 | some s => some s
 | none => spZ0 O Z f
theorem spKs0_ok (I : Sx.Interp) (O : OO) (hO : O = oo) (Z : OZ) (hZ : Z = zO O) (Y : OY) (hY : Y = yO O) : ∀ f s, spKs0 O Z Y f = some s → Sx.SpecOK I Tryd.prog f s := by
 intro f s h
 unfold spKs0 at h
 split at h
 ·rename_i s' hs; cases h; exact spY5_ok I O hO Y hY _ _ hs
 ·exact spZ0_ok I O hO Z hZ _ s h
def g_small11 (l : List Value) : Option (Bool × Value) := match l with
 | [] => some (true, .bool true)
 | _ => none
theorem small11_calls (w : World) : Calls Tryd.prog 4 (List.toArray []) w fun e w' => e = .returned (.bool true) ∧ Fr (fun _ => False) w w' :=
 calls_real (I := I0) (spKs0_ok I0 oo rfl (zO oo) rfl (yO oo) rfl) (by kernel_rfl) [] Tryd.func4 (by kernel_rfl) rfl Tryd.ntmps4 (by decide) (Eq.mpr (by kernel_rfl : _ = (Value.bool true = Value.bool true)) rfl) w
theorem ok_small11 (I : Sx.Interp) : Sx.SpecOK I Tryd.prog 4 (Sx.vspec g_small11) := by
 refine Sx.spec_of_calls Tryd.func4 (by kernel_rfl) (by kernel_rfl) ?_
 intro l v hg w
 unfold g_small11 at hg
 split at hg
 ·simp only [Option.some.injEq, Prod.mk.injEq, true_and] at hg
  subst hg
  exact small11_calls w
 ·cases hg
def spKs1 (O : OO) (R : OB) (W : OW) (Z : OZ) (Y : OY) (f : FuncId) : Option Sx.Spec := match f with
 | 4 => some (Sx.vspec g_small11)
 | f => match spW3 O R W f with
  | some s => some s
  | none => spKs0 O Z Y f
theorem spKs1_ok (O : OO) (hO : O = oo) (R : OB) (hR : R = bO) (W : OW) (hW : W = wO O) (Z : OZ) (hZ : Z = zO O) (Y : OY) (hY : Y = yO O) : ∀ f s, spKs1 O R W Z Y f = some s → Sx.SpecOK IT Tryd.prog f s := by
 intro f s h
 unfold spKs1 at h
 split at h
 ·cases h; exact ok_small11 IT
 ·split at h
  ·rename_i s' hs; cases h; exact spW3_ok IT tz_IT O hO R hR W hW _ _ hs
  ·exact spKs0_ok IT O hO Z hZ Y hY _ s h
theorem o_fadd (a b : Int) : oo.fadd a b = ((fadd a.toNat b.toNat : Nat) : Int) := by kernel_rfl
theorem o_fmul (a b : Int) : oo.fmul a b = ((fmul a.toNat b.toNat : Nat) : Int) := by kernel_rfl
theorem o_pbase (a : Int) : oo.pbase a = ((pbase a.toNat : Nat) : Int) := by kernel_rfl
theorem o_padd (a b : Int) : oo.padd a b = ((padd a.toNat b.toNat : Nat) : Int) := by kernel_rfl
theorem o_pscale (a b : Int) : oo.pscale a b = ((pscale a.toNat b.toNat : Nat) : Int) := by kernel_rfl
theorem rS' (a : Int) (m : Array Value) : revO oo (yO oo) (oo.pbase a) (perO oo m) = oo.pbase (rsecO oo (yO oo) a m) := by
 have key : ∀ s x y : Int, oo.padd (oo.pscale (oo.pbase a) x) (oo.pscale (oo.pbase s) y) = oo.pbase (oo.fadd (oo.fmul a x) (oo.fmul s y)) := fun s x y => by
  rw [o_padd, o_pbase a, o_pbase s, o_pscale _ x, o_pscale _ y, o_fmul a, o_fmul s, o_fadd, o_pbase]
  rw [Int.toNat_natCast, Int.toNat_natCast, Int.toNat_natCast, Int.toNat_natCast, Int.toNat_natCast, Int.toNat_natCast, Int.toNat_natCast, base_add, base_mul, base_mul]
 have := key (oo.ffrom m) ((yO oo).fac revB (oo.pbase a) (perO oo m)) ((yO oo).fac revB (perO oo m) (oo.pbase a))
 unfold revO rsecO
 exact this
def nn (m : Int) : Int := IntKind.i64.wrap (((BitVec.ofInt 64 m &&& BitVec.ofInt 64 31).toNat : Nat) : Int)
/-- A store of a seed's secrets. -/
def chX (O : OO) (x : Nat → Int) : Array Value := AV (kitF O (AV x) 6)
theorem ext37 (a b c d e : Int) (f : Nat → Int) : (Array.mk (app [Value.int .u64 a, Value.int .u64 b, Value.int .u64 c, Value.int .u64 d, Value.int .u64 e] (List.map (Value.int .u8) (tabI f 32)))).extract 5 37 = AV f := by kernel_rfl
theorem AV_tab (f : Nat → Int) : AV (fun i => (tabI f 32).getD i 0) = AV f := by kernel_rfl
theorem nn_le (m : Int) : 0 ≤ nn m ∧ nn m ≤ 31 := by
 unfold nn
 have h : (BitVec.ofInt 64 m &&& BitVec.ofInt 64 31).toNat ≤ 31 := by
  rw [BitVec.toNat_and, show (BitVec.ofInt 64 31).toNat = 31 by decide]
  exact Nat.and_le_right
 generalize (BitVec.ofInt 64 m &&& BitVec.ofInt 64 31).toNat = z at h ⊢
 rw [IntKind.wrap_i64]; omega
theorem sec_cs {O : OO} {W : OW} (hw : W = wO O) {Y : OY} (hy : Y = yO O) {k : Int} (h : 0 ≤ k ∧ k < 1048576) (a : Array Value) : secF Y k a = W.cm 20 (1048575 - k) a := by
 subst hw hy
 have e : okN k = true := by unfold okN; rw [show iLt k 0 = false by simp only [iLt_f]; omega, show iLe 1048576 k = false by simp only [iLe_f]; omega]; rfl
 have w : IntKind.i64.wrap (1048575 - k) = 1048575 - k := by rw [IntKind.wrap_i64]; omega
 funext i
 unfold secF
 rw [e, w]; rfl
set_option maxHeartbeats 4000000 in
theorem vc_stored (O : OO) (R : OB) (W : OW) (Z : OZ) (Y : OY) (m k : Int) (s x : Nat → Int) (F : FO O) (hr : R = bO) (hw : W = wO O) (hy : Y = yO O) (rS : ∀ a m, revO O Y (O.pbase a) (perO O m) = O.pbase (rsecO O Y a m)) (h_m : -9223372036854775808 ≤ m ∧ m ≤ 9223372036854775807) (h_k : -9223372036854775808 ≤ k ∧ k ≤ 9223372036854775807) (h_s : O.isH (AV s) = true) (h_x : O.isH (AV x) = true) :
 If (O.isH (AV s)) (If (O.isH (AV x)) (If (inU (O.ffrom (AV (kitF O (AV s) 1))) 18446744073709551616 && inU (O.ffrom (AV (kitF O (AV s) 2))) 18446744073709551616 && inU (O.ffrom (AV
  (kitF O (AV s) 3))) 18446744073709551616 && inU (O.ffrom (AV (kitF O (AV s) 4))) 18446744073709551616 && inU (O.ffrom (AV (kitF O (AV s) 5))) 18446744073709551616) ((∃ (x_1 : Int),
  (iLe 0 x_1 && iLe x_1 (iAdd (nn m) 1)) = true ∧ (Value.int .i64 0 = Value.int .i64 x_1 ∧ Value.int .i64 k = Value.int .i64 k ∧ Value.bool false = Value.bool false ∧ Value.bool true
  = Value.bool true ∧ Value.int .i64 (IntKind.i64.wrap (iOf (BitVec.ofInt 64 m &&& BitVec.ofInt 64 31).toNat)) = Value.int .i64 (IntKind.i64.wrap (iOf (BitVec.ofInt 64 m &&&
  BitVec.ofInt 64 31).toNat)) ∧ Value.int .u64 (O.pbase (O.ffrom (AV (kitF O (AV s) 5)))) = Value.int .u64 (O.pbase (O.ffrom (AV (kitF O (AV s) 5)))) ∧ True) ∧ Value.int .i64 0 =
  Value.int .i64 x_1 ∧ nilL = sdL W (chX O x) x_1.toNat ∧ Array.mk (app [Value.int .u64 (O.ffrom (AV (kitF O (AV x) 1))), Value.int .u64 (O.ffrom (AV (kitF O (AV x) 2))), Value.int
  .u64 (O.ffrom (AV (kitF O (AV x) 3))), Value.int .u64 (O.ffrom (AV (kitF O (AV x) 4))), Value.int .u64 (O.ffrom (AV (kitF O (AV x) 5)))] (List.map (Value.int .u8) (tabI (kitF O (AV
  x) 6) 32))) = Array.mk (app [Value.int .u64 (O.ffrom (AV (kitF O (AV x) 1))), Value.int .u64 (O.ffrom (AV (kitF O (AV x) 2))), Value.int .u64 (O.ffrom (AV (kitF O (AV x) 3))),
  Value.int .u64 (O.ffrom (AV (kitF O (AV x) 4))), Value.int .u64 (O.ffrom (AV (kitF O (AV x) 5)))] (List.map (Value.int .u8) (tabI (kitF O (AV x) 6) 32))) ∧ Array.mk (app [Value.int
  .u64 (O.ffrom (AV (kitF O (AV s) 1))), Value.int .u64 (O.ffrom (AV (kitF O (AV s) 2))), Value.int .u64 (O.ffrom (AV (kitF O (AV s) 3))), Value.int .u64 (O.ffrom (AV (kitF O (AV s)
  4))), Value.int .u64 (O.ffrom (AV (kitF O (AV s) 5)))] (List.map (Value.int .u8) (tabI (kitF O (AV s) 6) 32))) = Array.mk (app [Value.int .u64 (O.ffrom (AV (kitF O (AV s) 1))),
  Value.int .u64 (O.ffrom (AV (kitF O (AV s) 2))), Value.int .u64 (O.ffrom (AV (kitF O (AV s) 3))), Value.int .u64 (O.ffrom (AV (kitF O (AV s) 4))), Value.int .u64 (O.ffrom (AV (kitF
  O (AV s) 5)))] (List.map (Value.int .u8) (tabI (kitF O (AV s) 6) 32))) ∧ True) ∧ ∀ (x_1 : Int), (iLe 0 x_1 && iLe x_1 (iAdd (nn m) 1)) = true → If (iLe x_1 (IntKind.i64.wrap (iOf
  (BitVec.ofInt IntKind.i64.bits m &&& BitVec.ofInt IntKind.i64.bits 31).toNat))) (If (iLe (iNeg 9223372036854775808) x_1 && O.isH ((Array.mk (app [Value.int .u64 (O.ffrom (AV (kitF O
  (AV x) 1))), Value.int .u64 (O.ffrom (AV (kitF O (AV x) 2))), Value.int .u64 (O.ffrom (AV (kitF O (AV x) 3))), Value.int .u64 (O.ffrom (AV (kitF O (AV x) 4))), Value.int .u64
  (O.ffrom (AV (kitF O (AV x) 5)))] (List.map (Value.int .u8) (tabI (kitF O (AV x) 6) 32)))).extract 5 37)) (If (!!secB x_1) (Value.bool false = Value.bool true) (If (iLe 0 x_1 && iLe
  x_1 1048576 && okL O (sdL W (chX O x) x_1.toNat) && O.isH (AV (secF' W x_1 ((Array.mk (app [Value.int .u64 (O.ffrom (AV (kitF O (AV x) 1))), Value.int .u64 (O.ffrom (AV (kitF O (AV
  x) 2))), Value.int .u64 (O.ffrom (AV (kitF O (AV x) 3))), Value.int .u64 (O.ffrom (AV (kitF O (AV x) 4))), Value.int .u64 (O.ffrom (AV (kitF O (AV x) 5)))] (List.map (Value.int .u8)
  (tabI (kitF O (AV x) 6) 32)))).extract 5 37)) )) (If (iBne (stE W x_1 (sdL W (chX O x) x_1.toNat) x_1 (AV (secF' W x_1 ((Array.mk (app [Value.int .u64 (O.ffrom (AV (kitF O (AV x)
  1))), Value.int .u64 (O.ffrom (AV (kitF O (AV x) 2))), Value.int .u64 (O.ffrom (AV (kitF O (AV x) 3))), Value.int .u64 (O.ffrom (AV (kitF O (AV x) 4))), Value.int .u64 (O.ffrom (AV
  (kitF O (AV x) 5)))] (List.map (Value.int .u8) (tabI (kitF O (AV x) 6) 32)))).extract 5 37)) )) 0) (Value.bool false = Value.bool true) (∃ (x' : Int), (iLe 0 x' && iLe x' (iAdd (nn
  m) 1)) = true ∧ (iSub (iAdd (nn m) 1) x').toNat.succ ≤ (iSub (iAdd (nn m) 1) x_1).toNat ∧ (Value.int .i64 (IntKind.i64.wrap (iAdd x_1 1)) = Value.int .i64 x' ∧ Value.int .i64 k =
  Value.int .i64 k ∧ Value.bool false = Value.bool false ∧ Value.bool true = Value.bool true ∧ Value.int .i64 (IntKind.i64.wrap (iOf (BitVec.ofInt 64 m &&& BitVec.ofInt 64 31).toNat))
  = Value.int .i64 (IntKind.i64.wrap (iOf (BitVec.ofInt 64 m &&& BitVec.ofInt 64 31).toNat)) ∧ Value.int .u64 (O.pbase (O.ffrom (AV (kitF O (AV s) 5)))) = Value.int .u64 (O.pbase
  (O.ffrom (AV (kitF O (AV s) 5)))) ∧ True) ∧ Value.int .i64 (stN W x_1 (sdL W (chX O x) x_1.toNat) x_1 (AV (secF' W x_1 ((Array.mk (app [Value.int .u64 (O.ffrom (AV (kitF O (AV x)
  1))), Value.int .u64 (O.ffrom (AV (kitF O (AV x) 2))), Value.int .u64 (O.ffrom (AV (kitF O (AV x) 3))), Value.int .u64 (O.ffrom (AV (kitF O (AV x) 4))), Value.int .u64 (O.ffrom (AV
  (kitF O (AV x) 5)))] (List.map (Value.int .u8) (tabI (kitF O (AV x) 6) 32)))).extract 5 37)) )) = Value.int .i64 x' ∧ stL W x_1 (sdL W (chX O x) x_1.toNat) x_1 (AV (secF' W x_1
  ((Array.mk (app [Value.int .u64 (O.ffrom (AV (kitF O (AV x) 1))), Value.int .u64 (O.ffrom (AV (kitF O (AV x) 2))), Value.int .u64 (O.ffrom (AV (kitF O (AV x) 3))), Value.int .u64
  (O.ffrom (AV (kitF O (AV x) 4))), Value.int .u64 (O.ffrom (AV (kitF O (AV x) 5)))] (List.map (Value.int .u8) (tabI (kitF O (AV x) 6) 32)))).extract 5 37)) ) = sdL W (chX O x)
  x'.toNat ∧ Array.mk (app [Value.int .u64 (O.ffrom (AV (kitF O (AV x) 1))), Value.int .u64 (O.ffrom (AV (kitF O (AV x) 2))), Value.int .u64 (O.ffrom (AV (kitF O (AV x) 3))),
  Value.int .u64 (O.ffrom (AV (kitF O (AV x) 4))), Value.int .u64 (O.ffrom (AV (kitF O (AV x) 5)))] (List.map (Value.int .u8) (tabI (kitF O (AV x) 6) 32))) = Array.mk (app [Value.int
  .u64 (O.ffrom (AV (kitF O (AV x) 1))), Value.int .u64 (O.ffrom (AV (kitF O (AV x) 2))), Value.int .u64 (O.ffrom (AV (kitF O (AV x) 3))), Value.int .u64 (O.ffrom (AV (kitF O (AV x)
  4))), Value.int .u64 (O.ffrom (AV (kitF O (AV x) 5)))] (List.map (Value.int .u8) (tabI (kitF O (AV x) 6) 32))) ∧ Array.mk (app [Value.int .u64 (O.ffrom (AV (kitF O (AV s) 1))),
  Value.int .u64 (O.ffrom (AV (kitF O (AV s) 2))), Value.int .u64 (O.ffrom (AV (kitF O (AV s) 3))), Value.int .u64 (O.ffrom (AV (kitF O (AV s) 4))), Value.int .u64 (O.ffrom (AV (kitF
  O (AV s) 5)))] (List.map (Value.int .u8) (tabI (kitF O (AV s) 6) 32))) = Array.mk (app [Value.int .u64 (O.ffrom (AV (kitF O (AV s) 1))), Value.int .u64 (O.ffrom (AV (kitF O (AV s)
  2))), Value.int .u64 (O.ffrom (AV (kitF O (AV s) 3))), Value.int .u64 (O.ffrom (AV (kitF O (AV s) 4))), Value.int .u64 (O.ffrom (AV (kitF O (AV s) 5)))] (List.map (Value.int .u8)
  (tabI (kitF O (AV s) 6) 32))) ∧ True)) False)) False) (If (decide (IntKind.i64 = .i64) && !iEq (IntKind.i64.wrap (iAdd (IntKind.i64.wrap (iOf (BitVec.ofInt IntKind.i64.bits m &&&
  BitVec.ofInt IntKind.i64.bits 31).toNat)) 1)) 0) (If (iLe 0 x_1 && iLe x_1 1048576 && okL O (sdL W (chX O x) x_1.toNat) && iLe (iNeg 9223372036854775808) ((IntKind.i64.wrap (iOf
  (BitVec.ofInt IntKind.i64.bits k &&& BitVec.ofInt IntKind.i64.bits 31).toNat)).tmod (IntKind.i64.wrap (iAdd (IntKind.i64.wrap (iOf (BitVec.ofInt IntKind.i64.bits m &&& BitVec.ofInt
  IntKind.i64.bits 31).toNat)) 1)))) (If (inU (O.ffrom (AV (kitF O (AV x) 1))) 18446744073709551616 && inU (O.ffrom (AV (kitF O (AV x) 2))) 18446744073709551616 && inU (O.ffrom (AV
  (kitF O (AV x) 3))) 18446744073709551616 && inU (O.ffrom (AV (kitF O (AV x) 4))) 18446744073709551616 && inU (O.ffrom (AV (kitF O (AV x) 5))) 18446744073709551616 && O.isH (AV (fun
  (i : Nat) => (tabI (kitF O (AV x) 6) 32).getD i 0) )) (If (getB x_1 ((IntKind.i64.wrap (iOf (BitVec.ofInt 64 k &&& BitVec.ofInt 64 31).toNat)).tmod (IntKind.i64.wrap (iAdd
  (IntKind.i64.wrap (iOf (BitVec.ofInt 64 m &&& BitVec.ofInt 64 31).toNat)) 1))) (sdL W (chX O x) x_1.toNat)) (If (okN ((IntKind.i64.wrap (iOf (BitVec.ofInt 64 k &&& BitVec.ofInt 64
  31).toNat)).tmod (IntKind.i64.wrap (iAdd (IntKind.i64.wrap (iOf (BitVec.ofInt 64 m &&& BitVec.ofInt 64 31).toNat)) 1)))) (If (O.isH (AV (getF W x_1 ((IntKind.i64.wrap (iOf
  (BitVec.ofInt 64 k &&& BitVec.ofInt 64 31).toNat)).tmod (IntKind.i64.wrap (iAdd (IntKind.i64.wrap (iOf (BitVec.ofInt 64 m &&& BitVec.ofInt 64 31).toNat)) 1))) (sdL W (chX O x)
  x_1.toNat)) )) (If (iBeq (perO O (AV (getF W x_1 ((IntKind.i64.wrap (iOf (BitVec.ofInt 64 k &&& BitVec.ofInt 64 31).toNat)).tmod (IntKind.i64.wrap (iAdd (IntKind.i64.wrap (iOf
  (BitVec.ofInt 64 m &&& BitVec.ofInt 64 31).toNat)) 1))) (sdL W (chX O x) x_1.toNat)) )) (bif okN ((IntKind.i64.wrap (iOf (BitVec.ofInt 64 k &&& BitVec.ofInt 64 31).toNat)).tmod
  (IntKind.i64.wrap (iAdd (IntKind.i64.wrap (iOf (BitVec.ofInt 64 m &&& BitVec.ofInt 64 31).toNat)) 1))) then perO O (AV (secF Y ((IntKind.i64.wrap (iOf (BitVec.ofInt 64 k &&&
  BitVec.ofInt 64 31).toNat)).tmod (IntKind.i64.wrap (iAdd (IntKind.i64.wrap (iOf (BitVec.ofInt 64 m &&& BitVec.ofInt 64 31).toNat)) 1))) (AV (fun (i : Nat) => (tabI (kitF O (AV x) 6)
  32).getD i 0) )) ) else 0)) (If (inU (O.ffrom (AV (kitF O (AV s) 5))) 18446744073709551616 && O.isH (AV (getF W x_1 ((IntKind.i64.wrap (iOf (BitVec.ofInt 64 k &&& BitVec.ofInt 64
  31).toNat)).tmod (IntKind.i64.wrap (iAdd (IntKind.i64.wrap (iOf (BitVec.ofInt 64 m &&& BitVec.ofInt 64 31).toNat)) 1))) (sdL W (chX O x) x_1.toNat)) )) (If (inU (rsecO O Y (O.ffrom
  (AV (kitF O (AV s) 5))) (AV (getF W x_1 ((IntKind.i64.wrap (iOf (BitVec.ofInt 64 k &&& BitVec.ofInt 64 31).toNat)).tmod (IntKind.i64.wrap (iAdd (IntKind.i64.wrap (iOf (BitVec.ofInt
  64 m &&& BitVec.ofInt 64 31).toNat)) 1))) (sdL W (chX O x) x_1.toNat)) )) 18446744073709551616) (If (inU (O.pbase (O.ffrom (AV (kitF O (AV s) 5)))) 18446744073709551616 && inU (bif
  okN ((IntKind.i64.wrap (iOf (BitVec.ofInt 64 k &&& BitVec.ofInt 64 31).toNat)).tmod (IntKind.i64.wrap (iAdd (IntKind.i64.wrap (iOf (BitVec.ofInt 64 m &&& BitVec.ofInt 64 31).toNat))
  1))) then perO O (AV (secF Y ((IntKind.i64.wrap (iOf (BitVec.ofInt 64 k &&& BitVec.ofInt 64 31).toNat)).tmod (IntKind.i64.wrap (iAdd (IntKind.i64.wrap (iOf (BitVec.ofInt 64 m &&&
  BitVec.ofInt 64 31).toNat)) 1))) (AV (fun (i : Nat) => (tabI (kitF O (AV x) 6) 32).getD i 0) )) ) else 0) 18446744073709551616) (Value.bool (iBeq (O.pbase (rsecO O Y (O.ffrom (AV
  (kitF O (AV s) 5))) (AV (getF W x_1 ((IntKind.i64.wrap (iOf (BitVec.ofInt 64 k &&& BitVec.ofInt 64 31).toNat)).tmod (IntKind.i64.wrap (iAdd (IntKind.i64.wrap (iOf (BitVec.ofInt 64 m
  &&& BitVec.ofInt 64 31).toNat)) 1))) (sdL W (chX O x) x_1.toNat)) ))) (revO O Y (O.pbase (O.ffrom (AV (kitF O (AV s) 5)))) (bif okN ((IntKind.i64.wrap (iOf (BitVec.ofInt 64 k &&&
  BitVec.ofInt 64 31).toNat)).tmod (IntKind.i64.wrap (iAdd (IntKind.i64.wrap (iOf (BitVec.ofInt 64 m &&& BitVec.ofInt 64 31).toNat)) 1))) then perO O (AV (secF Y ((IntKind.i64.wrap
  (iOf (BitVec.ofInt 64 k &&& BitVec.ofInt 64 31).toNat)).tmod (IntKind.i64.wrap (iAdd (IntKind.i64.wrap (iOf (BitVec.ofInt 64 m &&& BitVec.ofInt 64 31).toNat)) 1))) (AV (fun (i :
  Nat) => (tabI (kitF O (AV x) 6) 32).getD i 0) )) ) else 0))) = Value.bool true) False) False) False) (Value.bool false = Value.bool true)) False) (Value.bool false = Value.bool
  true)) (Value.bool false = Value.bool true)) False) False) False)) False) False) False := by
 have hAs : O.isH (Array.mk (List.map (Value.int IntKind.u8) (tabI s 32))) = true := h_s
 have hAx : O.isH (Array.mk (List.map (Value.int IntKind.u8) (tabI x 32))) = true := h_x
 have hX : AV (kitF O (AV x) 6) = chX O x := rfl
 have m1 : IntKind.i64.wrap (iOf (BitVec.ofInt 64 m &&& BitVec.ofInt 64 31).toNat) = nn m := rfl
 have m2 : IntKind.i64.wrap (iOf (BitVec.ofInt IntKind.i64.bits m &&& BitVec.ofInt IntKind.i64.bits 31).toNat) = nn m := rfl
 have m3 : IntKind.i64.wrap (iOf (BitVec.ofInt 64 k &&& BitVec.ofInt 64 31).toNat) = nn k := rfl
 have m4 : IntKind.i64.wrap (iOf (BitVec.ofInt IntKind.i64.bits k &&& BitVec.ofInt IntKind.i64.bits 31).toNat) = nn k := rfl
 have fU : ∀ a, inU (O.ffrom a) 18446744073709551616 = true := F.ffrom
 have pU : ∀ a, inU (O.pbase a) 18446744073709551616 = true := F.pbase
 have iX : O.isH (chX O x) = true := F.tH _ _
 have iK : ∀ q, O.isH (AV (W.cm 20 q (chX O x))) = true := fun q => hg_isH F hw iX _ _
 have nm := nn_le m
 have nk := nn_le k
 simp only [ext37, AV_tab, hX, m1, m2, m3, m4, fU, pU, iX, h_s, h_x, Bool.and_true, Bool.true_and, Sx.If_t]
 generalize nn m = n at *
 generalize nn k = q at *
 have w0 : IntKind.i64.wrap (iAdd n 1) = n + 1 := by simp only [Sx.app, Sx.nAdd, Sx.nSub, Sx.nMul, Sx.nPow, Sx.nDiv, Sx.nMod, Sx.iAdd, Sx.iSub, Sx.iMul, Sx.iNeg, Sx.iPow, Sx.iOf]; rw [IntKind.wrap_i64]; omega
 rw [w0]
 refine ⟨⟨0, by simp only [Bool.and_eq_true, Bool.or_eq_true, Sx.iLt_t, Sx.iLt_f, Sx.iLe_t, Sx.iLe_f, Sx.iEq_t, Sx.iEq_f, Sx.iBeq_t, Sx.iBeq_f, Sx.iBne_t, Sx.iBne_f, Nat.ble_eq, Nat.beq_eq, Sx.Cont.n, Sx.app, Sx.nAdd, Sx.nSub, Sx.nMul, Sx.nPow, Sx.nDiv, Sx.nMod, Sx.iAdd, Sx.iSub, Sx.iMul, Sx.iNeg, Sx.iPow, Sx.iOf]; omega, ⟨(by first | rfl | trivial), (by first | rfl | trivial), (by first | rfl | trivial), (by first | rfl | trivial), (by first | rfl | trivial), (by first | rfl | trivial), (by first | rfl | trivial)⟩, (by first | rfl | trivial), (by first | rfl | trivial), (by first | rfl | trivial), (by first | rfl | trivial), (by first | rfl | trivial)⟩, fun j hj => ?_⟩
 simp only [Bool.and_eq_true, Bool.or_eq_true, Sx.iLt_t, Sx.iLt_f, Sx.iLe_t, Sx.iLe_f, Sx.iEq_t, Sx.iEq_f, Sx.iBeq_t, Sx.iBeq_f, Sx.iBne_t, Sx.iBne_f, Nat.ble_eq, Nat.beq_eq, Sx.Cont.n, Sx.app, Sx.nAdd, Sx.nSub, Sx.nMul, Sx.nPow, Sx.nDiv, Sx.nMod, Sx.iAdd, Sx.iSub, Sx.iMul, Sx.iNeg, Sx.iPow, Sx.iOf] at hj
 have I := sd_inv hw (chX O x) hj.1 (by omega)
 have okj : okL O (sdL W (chX O x) j.toNat) = true := inv_ok I iK
 have bj : secB j = false := secB_f.2 (by omega)
 have e1 : secF' W j (chX O x) = W.cm 20 (1048575 - j) (chX O x) := sec_eq W bj
 have a0 : iLe 0 j = true := by simp only [Bool.and_eq_true, Bool.or_eq_true, Sx.iLt_t, Sx.iLt_f, Sx.iLe_t, Sx.iLe_f, Sx.iEq_t, Sx.iEq_f, Sx.iBeq_t, Sx.iBeq_f, Sx.iBne_t, Sx.iBne_f, Nat.ble_eq, Nat.beq_eq, Sx.Cont.n]; omega
 have a1 : iLe (iNeg 9223372036854775808) j = true := by simp only [Bool.and_eq_true, Bool.or_eq_true, Sx.iLt_t, Sx.iLt_f, Sx.iLe_t, Sx.iLe_f, Sx.iEq_t, Sx.iEq_f, Sx.iBeq_t, Sx.iBeq_f, Sx.iBne_t, Sx.iBne_f, Nat.ble_eq, Nat.beq_eq, Sx.Cont.n, iNeg]; omega
 have a2 : iLe j 1048576 = true := by simp only [Bool.and_eq_true, Bool.or_eq_true, Sx.iLt_t, Sx.iLt_f, Sx.iLe_t, Sx.iLe_f, Sx.iEq_t, Sx.iEq_f, Sx.iBeq_t, Sx.iBeq_f, Sx.iBne_t, Sx.iBne_f, Nat.ble_eq, Nat.beq_eq, Sx.Cont.n]; omega
 have w1 : IntKind.i64.wrap (iAdd j 1) = j + 1 := by simp only [Sx.app, Sx.nAdd, Sx.nSub, Sx.nMul, Sx.nPow, Sx.nDiv, Sx.nMod, Sx.iAdd, Sx.iSub, Sx.iMul, Sx.iNeg, Sx.iPow, Sx.iOf]; rw [IntKind.wrap_i64]; omega
 have z := seed_add hw I (by omega)
 have zN : stN W j (sdL W (chX O x) j.toNat) j (AV (W.cm 20 (1048575 - j) (chX O x))) = j + 1 := by unfold stN; rw [z]; rfl
 have zL : stL W j (sdL W (chX O x) j.toNat) j (AV (W.cm 20 (1048575 - j) (chX O x))) = sdL W (chX O x) (j + 1).toNat := by rw [sd_next hj.1, e1]
 have a3 : iBne 0 0 = false := by decide
 have a4 : decide (IntKind.i64 = IntKind.i64) = true := rfl
 have a5 : iEq (n + 1) 0 = false := by simp only [Bool.and_eq_true, Bool.or_eq_true, Sx.iLt_t, Sx.iLt_f, Sx.iLe_t, Sx.iLe_f, Sx.iEq_t, Sx.iEq_f, Sx.iBeq_t, Sx.iBeq_f, Sx.iBne_t, Sx.iBne_f, Nat.ble_eq, Nat.beq_eq, Sx.Cont.n]; omega
 rw [e1]
 simp only [bj, z, zN, zL, a0, a1, a2, a3, a4, a5, w1, okj, iK, Bool.not_false, Bool.not_true, Bool.and_true, Bool.true_and, Sx.If_t, Sx.If_f]
 refine Sx.if_both (fun d => ?_) (fun d => ?_)
 ·simp only [Bool.and_eq_true, Bool.or_eq_true, Sx.iLt_t, Sx.iLt_f, Sx.iLe_t, Sx.iLe_f, Sx.iEq_t, Sx.iEq_f, Sx.iBeq_t, Sx.iBeq_f, Sx.iBne_t, Sx.iBne_f, Nat.ble_eq, Nat.beq_eq, Sx.Cont.n] at d
  exact ⟨j + 1, by simp only [Bool.and_eq_true, Bool.or_eq_true, Sx.iLt_t, Sx.iLt_f, Sx.iLe_t, Sx.iLe_f, Sx.iEq_t, Sx.iEq_f, Sx.iBeq_t, Sx.iBeq_f, Sx.iBne_t, Sx.iBne_f, Nat.ble_eq, Nat.beq_eq, Sx.Cont.n, Sx.app, Sx.nAdd, Sx.nSub, Sx.nMul, Sx.nPow, Sx.nDiv, Sx.nMod, Sx.iAdd, Sx.iSub, Sx.iMul, Sx.iNeg, Sx.iPow, Sx.iOf]; omega, by simp only [Sx.app, Sx.nAdd, Sx.nSub, Sx.nMul, Sx.nPow, Sx.nDiv, Sx.nMod, Sx.iAdd, Sx.iSub, Sx.iMul, Sx.iNeg, Sx.iPow, Sx.iOf]; omega, ⟨(by first | rfl | trivial), (by first | rfl | trivial), (by first | rfl | trivial), (by first | rfl | trivial), (by first | rfl | trivial), (by first | rfl | trivial), (by first | rfl | trivial)⟩, (by first | rfl | trivial), (by first | rfl | trivial), (by first | rfl | trivial), (by first | rfl | trivial), (by first | rfl | trivial)⟩
 ·simp only [Bool.and_eq_true, Bool.or_eq_true, Sx.iLt_t, Sx.iLt_f, Sx.iLe_t, Sx.iLe_f, Sx.iEq_t, Sx.iEq_f, Sx.iBeq_t, Sx.iBeq_f, Sx.iBne_t, Sx.iBne_f, Nat.ble_eq, Nat.beq_eq, Sx.Cont.n] at d
  obtain rfl : j = n + 1 := by omega
  have hq : 0 ≤ q.tmod (n + 1) ∧ q.tmod (n + 1) < n + 1 := by
   rw [Int.tmod_eq_emod_of_nonneg nk.1]
   exact ⟨Int.emod_nonneg _ (by omega), Int.emod_lt_of_pos _ (by omega)⟩
  generalize q.tmod (n + 1) = r at *
  obtain ⟨g1, g2⟩ := inv_get I hq.1 hq.2
  have e2 : secF Y r (chX O x) = W.cm 20 (1048575 - r) (chX O x) := sec_cs hw hy (by omega) _
  have ok : okN r = true := by unfold okN; rw [show iLt r 0 = false by simp only [iLt_f]; omega, show iLe 1048576 r = false by simp only [iLe_f]; omega]; rfl
  have a6 : iLe (iNeg 9223372036854775808) r = true := by simp only [Bool.and_eq_true, Bool.or_eq_true, Sx.iLt_t, Sx.iLt_f, Sx.iLe_t, Sx.iLe_f, Sx.iEq_t, Sx.iEq_f, Sx.iBeq_t, Sx.iBeq_f, Sx.iBne_t, Sx.iBne_f, Nat.ble_eq, Nat.beq_eq, Sx.Cont.n, iNeg]; omega
  have pU2 : ∀ a, inU (perO O a) 18446744073709551616 = true := fun a => F.pbase _
  have rU : ∀ b a, inU (rsecO O Y b a) 18446744073709551616 = true := fun b a => F.fadd _ _
  have self : ∀ a : Int, iBeq a a = true := fun a => by simp only [iBeq_t]
  simp only [a6, g1, g2, e2, ok, iK, pU2, rU, rS, self, Bool.and_true, Bool.true_and, cond_true, Sx.If_t]
  exact Sx.if_true (by decide) trivial
theorem wpc_stored (O : OO) (R : OB) (W : OW) (Z : OZ) (Y : OY) (m k : Int) (s x : Nat → Int) (F : FO O) (hr : R = bO) (hw : W = wO O) (hy : Y = yO O) (rS : ∀ a m, revO O Y (O.pbase a) (perO O m) = O.pbase (rsecO O Y a m)) (h_m : -9223372036854775808 ≤ m ∧ m ≤ 9223372036854775807) (h_k : -9223372036854775808 ≤ k ∧ k ≤ 9223372036854775807) (h_s : O.isH (AV s) = true) (h_x : O.isH (AV x) = true) : wpcI Tryd.prog (spKs1 O R W Z Y) Tryd.f3.ntmps [⟨Int, [3, 8, 9, 10, 11, 12, 13, 14], [(200014, 5, .structs KK (List.replicate 21 []))], fun B j => [(15, .v (.int .i64 j))], fun B j => [(1280, .blk 56 (.v (.int .i64 j) :: selList B 21 0)), (B, .sels KK (sdL W (chX O x) j.toNat))], fun j => (iLe 0 j && iLe j (nn m + 1)) = true, fun j => (nn m + 1 - j).toNat, 0⟩] (bodyOf Tryd.f3) 0 0 (argEnv [.agg (AV s), .agg (AV x), .int .i64 m, .int .i64 k] 0) [] (retK Tryd.prog Tryd.f3.results.toList (.bool true)) :=
 Eq.mpr (by kernel_rfl) (vc_stored O R W Z Y m k s x F hr hw hy rS h_m h_k h_s h_x)
theorem walk_stored (l_s : List Nat) (hl_s : l_s.length = 32) (hb_s : ∀ i, l_s.getD i 0 < 256) (l_x : List Nat) (hl_x : l_x.length = 32) (hb_x : ∀ i, l_x.getD i 0 < 256) (m : Int) (hb_m : -9223372036854775808 ≤ m ∧ m ≤ 9223372036854775807) (k : Int) (hb_k : -9223372036854775808 ≤ k ∧ k ≤ 9223372036854775807) (w : World) (ha : AmbW IT w) : Calls Tryd.prog 3 #[B8 l_s, B8 l_x, .int .i64 m, .int .i64 k] w fun e w' => e = .returned (.bool true) ∧ Kp w w' := by
 obtain ⟨s, e_s, i_s⟩ := bcs_AV l_s hl_s hb_s
 obtain ⟨x, e_x, i_x⟩ := bcs_AV l_x hl_x hb_x
 rw [show (B8 l_s : Value) = .agg (AV s) from congrArg Value.agg e_s]
 rw [show (B8 l_x : Value) = .agg (AV x) from congrArg Value.agg e_x]
 exact (calls_realI (I := IT) (spKs1_ok oo rfl bO rfl (wO oo) rfl (zO oo) rfl (yO oo) rfl) (by kernel_rfl) _ (l := [.agg (AV s), .agg (AV x), .int .i64 m, .int .i64 k]) Tryd.func3 (by kernel_rfl) rfl Tryd.ntmps3 (by simp) (wpc_stored oo bO (wO oo) (zO oo) (yO oo) (m : Int) (k : Int) s x (fo_oo oo rfl) rfl rfl rfl rS' hb_m hb_k (isH_oo i_s) (isH_oo i_x)) w).mono fun _ _ ⟨he, hf⟩ => ⟨he, fr_below hf⟩
end Go.Proofs.YtheihhjlkefhgaaDoor
