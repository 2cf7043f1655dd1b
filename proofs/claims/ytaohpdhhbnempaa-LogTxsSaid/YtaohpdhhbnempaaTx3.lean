/- Transactions: what is read of them: the walk, by the symbolic machine (printed by genTx3.py; VCs by VcTool). -/
import Derived.Test.YtaohpdhhbnempaaTx2
import Derived.Test.YtaohpdhhbnempaaTr
namespace Go.Proofs.Ytaohpdhhbnempaa
open Go.RowKit Go.Lib Ckp Cfd Cpd Sx
open IntKind (i64 u64 u8 i32 u32)
set_option linter.unusedVariables false
set_option linter.unusedSimpArgs false
set_option maxRecDepth 1000000
set_option maxHeartbeats 4000000

def g_txup (O : OO) (R : OB) (ds : List Dt) : zG := match ds with
 | [.v (.int .i64 m), .node [.node [.ints l, .v (.bool no)]]] => some ((Nat.ble l.length 1000000), [], fun _ => ⟨[.v (.int .i64 (bif iLt m (R.nV l) then -1 else R.nV l))], [(0, .blk 76 [.ptr 1 0]), (1, .blk 127 [.row 3, .v (.bool (bif R.nOk l then no else true))]), (3, .ro (.ints .u8 (R.nR l)))]⟩)
 | _ => none
theorem vc_txup (O : OO) (R : OB) (m : Int) (l : List Int) (no : Bool) (F : FO O) (hr : R = bO) (h0 : (Nat.ble l.length 1000000) = true) :
 let T1 := bif iLt m (R.nV l) then iNeg 1 else R.nV l; If (l.length.ble 1000000) (If (iLt m (R.nV l)) (yI (iNeg 1) = yI T1 ∧ True ∧ yB (bif R.nOk l then no else true) = yB (bif R.nOk
  l then no else true) ∧ EqI (R.nR l) (R.nR l) ∧ True) (yI (R.nV l) = yI T1 ∧ True ∧ yB (bif R.nOk l then no else true) = yB (bif R.nOk l then no else true) ∧ EqI (R.nR l) (R.nR l) ∧
  True)) False := by
 conv => zeta
 exact ziT h0 (Sx.if_both (fun h => by rw [h]; exact (by repeat' (first | exact True.intro | exact rfl | refine ⟨?_, ?_⟩))) (fun h => by rw [h]; exact (by repeat' (first | exact True.intro | exact rfl | refine ⟨?_, ?_⟩))))
theorem ok_txup (I : Sx.Interp) (O : OO) (hO : O = oo) (R : OB) (hR : R = bO) : Sx.SpecOK I Try.prog 52 (pspec [.v, .obj 76 [.obj 127 [.ro .u8, .v]]] true (g_txup O R)) := by
 refine spec_pI (spZt4_ok I O hO R hR) (by kernel_rfl) (fun _ => []) Try.func52 (by kernel_rfl) (by kernel_rfl) rfl Try.ntmps52 (by decide) ?_ ?_
 ·intro ds p bs F h
  unfold g_txup at h
  split at h
  ·rename_i m l no
   simp only [zsI, zpI] at h
   obtain ⟨_, _, rfl⟩ := h
   kernel_rfl
  ·cases h
 ·intro ds bs F hl h
  unfold g_txup at h
  split at h
  ·rename_i m l no
   simp only [zsI, zpI, zaT] at h
   obtain ⟨h0, _, rfl⟩ := h
   exact Eq.mpr (by kernel_rfl) (vc_txup O R m l no (fo_oo O hO) hR (by first | exact h0 | (simp only [zaT]; exact h0)))
  ·cases h
def spZt5 (O : OO) (R : OB) (f : FuncId) : Option Sx.Spec := match f with
 | 52 => some (pspec [.v, .obj 76 [.obj 127 [.ro .u8, .v]]] true (g_txup O R))
 | f => spZt4 O R f
theorem spZt5_ok (I : Sx.Interp) (O : OO) (hO : O = oo) (R : OB) (hR : R = bO) : ∀ f s, spZt5 O R f = some s → Sx.SpecOK I Try.prog f s := by
 intro f s h
 unfold spZt5 at h
 split at h
 · cases h; exact ok_txup I O hO R hR
 ·exact spZt4_ok I O hO R hR _ s h
def g_txread (O : OO) (R : OB) (ds : List Dt) : zG := match ds with
 | [.ints b] => some ((Nat.ble b.length 1000000) && (txIs O R b), [], fun _ => ⟨[.agg [.row 1, .row 3, .v (.int .i64 (tN R b))], .v (.bool true)], [(1, .ownq 101 36 2), (2, .dpool inD ((tI R b).map cI) none), (3, .ownq 106 2 4), (4, .dpool ouD ((tO R b).map cO) none)]⟩)
 | _ => none
theorem vc_txread (O : OO) (R : OB) (b : List Int) (F : FO O) (hr : R = bO) (h0 : (Nat.ble b.length 1000000) = true) (h1 : (txIs O R b) = true) :
 let T1 := bif iLt 64 (R.nV b) then iNeg 1 else R.nV b; let T2 := SV.v (Value.agg (Array.mk [Value.slice none 0 0, Value.slice none 0 0, yI 0])) = SV.agg [SV.row 1, SV.row 3, SV.v (yI (tN R b))] ∧ yB false = yB true;
  let T3 := List.map cO (tO R b) = List.map cO (tO R b) ∧ ((none : Option Nat) = none ∨ (none : Option Nat) = none); If (b.length.ble 1000000) (If (b.length.ble 1000000) ( (∃ (x :
  Nat), x ≤ (tI R b).length ∧ (SV.fn (Fn.func 52) [SV.ptr 384 0] = SV.fn (Fn.func 52) [SV.ptr 384 0] ∧ yI 0 = yI (iOf x) ∧ yI T1 = yI T1 ∧ yI
  T1 = yI T1 ∧ True) ∧ yB (bif R.nOk b then false else true) = yB false ∧ EqI (R.nR b) (txA R (tI R b) (tO R b) (tN R b) x) ∧ yI 0 = yI 0 ∧ (([] : List (List DD)) = [] ∧ List.map cJ
  (List.take x (tI R b)) = []) ∧ Array.mk [Value.slice none 0 0, Value.slice none 0 0, yI 0] = Array.mk [Value.slice none 0 0, Value.slice none 0 0, yI 0] ∧ True) ∧ ∀ (x : Nat), x ≤
  (tI R b).length → If (iLt (iOf x) T1) (If ((txA R (tI R b) (tO R b) (tN R b) x).length.ble 1000000) (If ((hshR (txA R (tI R b) (tO R b) (tN R b) x) false).length.ble 1000000) (If
  ((nMul (nAdd (List.map cJ (List.take x (tI R b))).length 1) 80).ble 140737488355328 && (nAdd (List.map cJ (List.take x (tI R b))).length 1).ble 9223372036854775807) (∃ (x' : Nat),
  x' ≤ (tI R b).length ∧ (nSub (tI R b).length x').succ ≤ nSub (tI R b).length x ∧ (SV.fn (Fn.func 52) [SV.ptr 384 0] = SV.fn (Fn.func 52)
  [SV.ptr 384 0] ∧ yI (i64.wrap (iAdd (iOf x) 1)) = yI (iOf x') ∧ yI T1 = yI T1 ∧ yI T1 = yI T1 ∧ True) ∧ yB (bif R.nOk (hshR (txA R (tI R b) (tO R b) (tN R b) x) false) then
  hshN (txA R (tI R b) (tO R b) (tN R b) x) false else true) = yB false ∧ EqI (R.nR (hshR (txA R (tI R b) (tO R b) (tN R b) x) false)) (txA R (tI R b) (tO R b) (tN R b) x') ∧ yI 0 =
  yI 0 ∧ (app (List.map cJ (List.take x (tI R b))) [(List.map DD.n (tabI (hsh (txA R (tI R b) (tO R b) (tN R b) x) false) 32) ++ [DD.n (R.nV (hshR (txA R (tI R b) (tO R b) (tN R b) x)
  false)), DD.n 0, DD.s [], DD.n 0])] = List.map cJ (List.take x' (tI R b)) ∧ (some 0 = some 0 ∨ some 0 = none)) ∧ Array.mk [Value.slice none 0 0, Value.slice none 0 0, yI 0] =
  Array.mk [Value.slice none 0 0, Value.slice none 0 0, yI 0] ∧ True) False) False) False) (If ((txA R (tI R b) (tO R b) (tN R b) x).length.ble 1000000) ( (∃ (x_1 : Nat), x_1 ≤ (tO R
  b).length ∧ (SV.fn (Fn.func 52) [SV.ptr 384 0] = SV.fn (Fn.func 52) [SV.ptr 384 0] ∧ yI 0 = yI (iOf x_1) ∧ yI T1 = yI T1 ∧ yI (bif iLt 64
  (R.nV (txA R (tI R b) (tO R b) (tN R b) x)) then iNeg 1 else R.nV (txA R (tI R b) (tO R b) (tN R b) x)) = yI (bif iLt 64 (R.nV (txA R (tI R b) (tO R b) (tN R b) x)) then iNeg 1 else
  R.nV (txA R (tI R b) (tO R b) (tN R b) x)) ∧ yI (bif iLt 64 (R.nV (txA R (tI R b) (tO R b) (tN R b) x)) then iNeg 1 else R.nV (txA R (tI R b) (tO R b) (tN R b) x)) = yI (bif iLt 64
  (R.nV (txA R (tI R b) (tO R b) (tN R b) x)) then iNeg 1 else R.nV (txA R (tI R b) (tO R b) (tN R b) x)) ∧ True) ∧ yB (bif R.nOk (txA R (tI R b) (tO R b) (tN R b) x) then false else
  true) = yB false ∧ EqI (R.nR (txA R (tI R b) (tO R b) (tN R b) x)) (txU R (tI R b) (tO R b) (tN R b) x_1) ∧ yI 0 = yI 0 ∧ (List.map cJ (List.take x (tI R b)) = insL (tI R b) 0 ∧
  (some 0 = some 0 ∨ some 0 = none)) ∧ (([] : List (List DD)) = [] ∧ List.map cO (List.take x_1 (tO R b)) = []) ∧ Array.mk [Value.slice none 0 0, Value.slice none 0 0, yI 0] =
  Array.mk [Value.slice none 0 0, Value.slice none 0 0, yI 0] ∧ True) ∧ ∀ (x_1 : Nat), x_1 ≤ (tO R b).length → If (iLt (iOf x_1) (bif iLt 64 (R.nV (txA R (tI R b) (tO R b) (tN R b)
  x)) then iNeg 1 else R.nV (txA R (tI R b) (tO R b) (tN R b) x))) (If ((txU R (tI R b) (tO R b) (tN R b) x_1).length.ble 1000000) (If (((R.nR (txU R (tI R b) (tO R b) (tN R b)
  x_1)).length.ble 1000000 && R.nOk (R.nR (txU R (tI R b) (tO R b) (tN R b) x_1)) && !bif R.nOk (txU R (tI R b) (tO R b) (tN R b) x_1) then false else true) && iLe 0 (R.nV (R.nR (txU
  R (tI R b) (tO R b) (tN R b) x_1))) && iLe (R.nV (R.nR (txU R (tI R b) (tO R b) (tN R b) x_1))) (iOf (R.nR (R.nR (txU R (tI R b) (tO R b) (tN R b) x_1))).length)) (If ((List.take
  (R.nV (R.nR (txU R (tI R b) (tO R b) (tN R b) x_1))).toNat (R.nR (R.nR (txU R (tI R b) (tO R b) (tN R b) x_1)))).length.ble 1000000 && lkIs O R (List.take (R.nV (R.nR (txU R (tI R
  b) (tO R b) (tN R b) x_1))).toNat (R.nR (R.nR (txU R (tI R b) (tO R b) (tN R b) x_1))))) (If ((nMul (nAdd (List.map cO (List.take x_1 (tO R b))).length 1) 32).ble 140737488355328 &&
  (nAdd (List.map cO (List.take x_1 (tO R b))).length 1).ble 9223372036854775807) (∃ (x' : Nat), x' ≤ (tO R b).length ∧ (nSub (tO R b).length x').succ ≤ nSub (tO R b).length x_1 ∧
  (SV.fn (Fn.func 52) [SV.ptr 384 0] = SV.fn (Fn.func 52) [SV.ptr 384 0] ∧ yI (i64.wrap (iAdd (iOf x_1) 1)) = yI (iOf x') ∧ yI T1 = yI
  T1 ∧ yI (bif iLt 64 (R.nV (txA R (tI R b) (tO R b) (tN R b) x)) then iNeg 1 else R.nV (txA R (tI R b) (tO R b) (tN R b) x)) = yI (bif iLt 64 (R.nV (txA R (tI R b) (tO R b) (tN R b)
  x)) then iNeg 1 else R.nV (txA R (tI R b) (tO R b) (tN R b) x)) ∧ yI (bif iLt 64 (R.nV (txA R (tI R b) (tO R b) (tN R b) x)) then iNeg 1 else R.nV (txA R (tI R b) (tO R b) (tN R b)
  x)) = yI (bif iLt 64 (R.nV (txA R (tI R b) (tO R b) (tN R b) x)) then iNeg 1 else R.nV (txA R (tI R b) (tO R b) (tN R b) x)) ∧ True) ∧ yB false = yB false ∧ EqI (List.drop (R.nV
  (R.nR (txU R (tI R b) (tO R b) (tN R b) x_1))).toNat (R.nR (R.nR (txU R (tI R b) (tO R b) (tN R b) x_1)))) (txU R (tI R b) (tO R b) (tN R b) x') ∧ yI 0 = yI 0 ∧ (insL (tI R b) 0 =
  insL (tI R b) 0 ∧ (some 0 = some 0 ∨ some 0 = none)) ∧ (app (List.map cO (List.take x_1 (tO R b))) [[DD.n (R.nV (txU R (tI R b) (tO R b) (tN R b) x_1)), DD.s (List.map cB (lkOf R
  (List.take (R.nV (R.nR (txU R (tI R b) (tO R b) (tN R b) x_1))).toNat (R.nR (R.nR (txU R (tI R b) (tO R b) (tN R b) x_1))))))]] = List.map cO (List.take x' (tO R b)) ∧ ((none :
  Option Nat) = none ∨ (none : Option Nat) = none)) ∧ Array.mk [Value.slice none 0 0, Value.slice none 0 0, yI 0] = Array.mk [Value.slice none 0 0, Value.slice none 0 0, yI 0] ∧ True)
  False) False) False) False) (If ((txU R (tI R b) (tO R b) (tN R b) x_1).length.ble 1000000) ( (∃ (x_2 : Nat), x_2 ≤ (tI R b).length ∧ (SV.fn (Fn.func 52) [SV.ptr
  384 0] = SV.fn (Fn.func 52) [SV.ptr 384 0] ∧ yI 0 = yI (iOf x_2) ∧ yI T1 = yI T1 ∧ yI (bif iLt 64 (R.nV (txA R (tI R b) (tO R b) (tN R b) x)) then iNeg 1 else
  R.nV (txA R (tI R b) (tO R b) (tN R b) x)) = yI (bif iLt 64 (R.nV (txA R (tI R b) (tO R b) (tN R b) x)) then iNeg 1 else R.nV (txA R (tI R b) (tO R b) (tN R b) x)) ∧ yI (iOf (insL
  (tI R b) 0).length) = yI (iOf (insL (tI R b) 0).length) ∧ True) ∧ yB (bif R.nOk (txU R (tI R b) (tO R b) (tN R b) x_1) then false else true) = yB false ∧ EqI (R.nR (txU R (tI R b)
  (tO R b) (tN R b) x_1)) (txT R (tI R b) x_2) ∧ yI (R.nV (txU R (tI R b) (tO R b) (tN R b) x_1)) = yI (tN R b) ∧ (insL (tI R b) 0 = insL (tI R b) x_2 ∧ (some x_2 = some 0 ∨ some x_2
  = none)) ∧ (List.map cO (List.take x_1 (tO R b)) = List.map cO (tO R b) ∧ ((none : Option Nat) = none ∨ (none : Option Nat) = none)) ∧ Array.mk [Value.slice none 0 0, Value.slice
  none 0 0, yI 0] = Array.mk [Value.slice none 0 0, Value.slice none 0 0, yI 0] ∧ True) ∧ ∀ (x_2 : Nat), x_2 ≤ (tI R b).length → If (iLt (iOf x_2) (iOf (insL (tI R b) 0).length)) (If
  (Nat.beq 36 36 && (iLe 0 (iOf x_2) && (iOf x_2).toNat.blt (insL (tI R b) x_2).length)) (If (Nat.beq 36 36 && Nat.blt 0 36 && (iOf x_2).toNat.blt (insL (tI R b) x_2).length) (If
  ((txT R (tI R b) x_2).length.ble 1000000) (If (Nat.beq 36 36 && Nat.blt 0 36 && (iOf x_2).toNat.blt (insL (tI R b) x_2).length) (If (Nat.beq 36 36 && Nat.blt 0 36 && (iOf
  x_2).toNat.blt (insL (tI R b) x_2).length) (If (Nat.beq 1 1 && Nat.beq 36 36 && Nat.beq 36 36 && decide (i64 = .i64) && (iOf x_2).toNat.blt (insL (tI R b) x_2).length &&
  x_2.ble (iOf x_2).toNat) (If ((R.nR (txT R (tI R b) x_2)).length.ble 1000000) (If (iLt (bif iLt 12 (R.nV (R.nR (txT R (tI R b) x_2))) then iNeg 1 else R.nV (R.nR (txT R (tI R b)
  x_2))) 0) (T2 ∧ True ∧ False) (∃ (x0 : Nat × Nat), x0.2 ≤ viN (tI R b) x0.1 ∧ ((SV.fn (Fn.func 52) [SV.ptr 384 0] = SV.fn (Fn.func 52)
  [SV.ptr 384 0] ∧ yI 0 = yI (iOf x0.2) ∧ yI T1 = yI T1 ∧ yI (bif iLt 64 (R.nV (txA R (tI R b) (tO R b) (tN R b) x)) then iNeg 1 else R.nV (txA R (tI R b) (tO R b) (tN R b) x)) = yI
  (bif iLt 64 (R.nV (txA R (tI R b) (tO R b) (tN R b) x)) then iNeg 1 else R.nV (txA R (tI R b) (tO R b) (tN R b) x)) ∧ yI (iOf x_2) = yI (iOf x_2) ∧ SV.el 1942 36 (iOf x_2).toNat 33
  = SV.el 1942 36 (iOf x_2).toNat 33 ∧ yI (bif iLt 12 (R.nV (R.nR (txT R (tI R b) x_2))) then iNeg 1 else R.nV (R.nR (txT R (tI R b) x_2))) = yI (bif iLt 12 (R.nV (R.nR (txT R (tI R
  b) x_2))) then iNeg 1 else R.nV (R.nR (txT R (tI R b) x_2))) ∧ yI (iOf (insL (tI R b) 0).length) = yI (iOf (insL (tI R b) 0).length) ∧ yI (iOf x_2) = yI (iOf x_2) ∧ yI (bif iLt 12
  (R.nV (R.nR (txT R (tI R b) x_2))) then iNeg 1 else R.nV (R.nR (txT R (tI R b) x_2))) = yI (bif iLt 12 (R.nV (R.nR (txT R (tI R b) x_2))) then iNeg 1 else R.nV (R.nR (txT R (tI R b)
  x_2))) ∧ True) ∧ yB (bif R.nOk (R.nR (txT R (tI R b) x_2)) then bif R.nOk (txT R (tI R b) x_2) then false else true else true) = yB false ∧ EqI (R.nR (R.nR (txT R (tI R b) x_2)))
  (txS' R (tI R b) x0.1 x0.2) ∧ (iOf x_2).toNat = x0.1 ∧ Cont.structs [.u64, .u64] [] = Cont.structs [.u64, .u64] (viG (tI R b) x0.1 x0.2) ∧ (ddPut (insL (tI R b) x_2) (iOf x_2).toNat
  33 (DD.n (R.nV (txT R (tI R b) x_2))) = ddPut (insL (tI R b) x_2) (iOf x_2).toNat 33 (DD.n (R.nV (txT R (tI R b) x_2))) ∧ (some x_2 = some x_2 ∨ some x_2 = none)) ∧ yI (tN R b) = yI
  (tN R b) ∧ (insL (tI R b) x_2 = insL (tI R b) x_2 ∧ (some x_2 = some x_2 ∨ some x_2 = none)) ∧ T3 ∧ Array.mk [Value.slice none 0 0, Value.slice none 0 0, yI 0] = Array.mk
  [Value.slice none 0 0, Value.slice none 0 0, yI 0] ∧ True) ∧ ∀ (x_3 : Nat × Nat), x_3.2 ≤ viN (tI R b) x_3.1 → x_3.1 = x0.1 → If (iLt (iOf x_3.snd) (bif iLt 12 (R.nV (R.nR (txT R
  (tI R b) x_2))) then iNeg 1 else R.nV (R.nR (txT R (tI R b) x_2)))) (If (Nat.beq 36 36 && Nat.blt 0 36 && (iOf x_2).toNat.blt (ddPut (insL (tI R b) x_2) (iOf x_2).toNat 33 (DD.n
  (R.nV (txT R (tI R b) x_2)))).length) (If (Nat.beq 36 36 && Nat.blt 0 36 && (iOf x_2).toNat.blt (ddPut (insL (tI R b) x_2) (iOf x_2).toNat 33 (DD.n (R.nV (txT R (tI R b)
  x_2)))).length) (If (true && !false && Nat.beq 36 36 && Nat.beq 36 36 && Nat.blt 34 36 && Nat.beq 34 34 && x_3.1.blt (ddPut (insL (tI R b) x_2) (iOf x_2).toNat 33 (DD.n (R.nV (txT R
  (tI R b) x_2)))).length && (iOf x_2).toNat.beq x_3.1) (If ((txS' R (tI R b) x_3.1 x_3.2).length.ble 1000000) (If ((u64R (txS' R (tI R b) x_3.1 x_3.2) false).length.ble 1000000) (If
  ((nMul (nAdd (viG (tI R b) x_3.1 x_3.2).length 1) 16).ble 140737488355328 && (nAdd (viG (tI R b) x_3.1 x_3.2).length 1).ble 9223372036854775807) (If (Nat.beq 36 36 && Nat.blt 0 36
  && (iOf x_2).toNat.blt (ddPut (insL (tI R b) x_2) (iOf x_2).toNat 33 (DD.n (R.nV (txT R (tI R b) x_2)))).length) (If (Nat.beq 36 36 && Nat.blt 0 36 && (iOf x_2).toNat.blt (ddPut
  (insL (tI R b) x_2) (iOf x_2).toNat 33 (DD.n (R.nV (txT R (tI R b) x_2)))).length) (If (Nat.beq 1 1 && true && Nat.beq 36 36 && Nat.beq 36 36 && Nat.blt 34 36 && Nat.beq 34 34 &&
  x_3.1.blt (ddPut (insL (tI R b) x_2) (iOf x_2).toNat 33 (DD.n (R.nV (txT R (tI R b) x_2)))).length && (iOf x_2).toNat.beq x_3.1) (∃ (x' : Nat × Nat), x'.2 ≤ viN (tI R b) x'.1 ∧ x'.1
  = x0.1 ∧ (nSub (viN (tI R b) x'.1) x'.2).succ ≤ nSub (viN (tI R b) x_3.1) x_3.2 ∧ (SV.fn (Fn.func 52) [SV.ptr 384 0] = SV.fn (Fn.func 52)
  [SV.ptr 384 0] ∧ yI (i64.wrap (iAdd (iOf x_3.2) 1)) = yI (iOf x'.2) ∧ yI T1 = yI T1 ∧ yI (bif iLt 64 (R.nV (txA R (tI R b) (tO R b) (tN R b) x)) then iNeg 1 else R.nV (txA R
  (tI R b) (tO R b) (tN R b) x)) = yI (bif iLt 64 (R.nV (txA R (tI R b) (tO R b) (tN R b) x)) then iNeg 1 else R.nV (txA R (tI R b) (tO R b) (tN R b) x)) ∧ yI (iOf x_2) = yI (iOf x_2)
  ∧ SV.el 1942 36 (iOf x_2).toNat 33 = SV.el 1942 36 (iOf x_2).toNat 33 ∧ yI (bif iLt 12 (R.nV (R.nR (txT R (tI R b) x_2))) then iNeg 1 else R.nV (R.nR (txT R (tI R b) x_2))) = yI
  (bif iLt 12 (R.nV (R.nR (txT R (tI R b) x_2))) then iNeg 1 else R.nV (R.nR (txT R (tI R b) x_2))) ∧ yI (iOf (insL (tI R b) 0).length) = yI (iOf (insL (tI R b) 0).length) ∧ yI (iOf
  x_2) = yI (iOf x_2) ∧ yI (bif iLt 12 (R.nV (R.nR (txT R (tI R b) x_2))) then iNeg 1 else R.nV (R.nR (txT R (tI R b) x_2))) = yI (bif iLt 12 (R.nV (R.nR (txT R (tI R b) x_2))) then
  iNeg 1 else R.nV (R.nR (txT R (tI R b) x_2))) ∧ True) ∧ yB (u64N (u64R (txS' R (tI R b) x_3.1 x_3.2) false) (u64N (txS' R (tI R b) x_3.1 x_3.2) false)) = yB false ∧ EqI (u64R (u64R
  (txS' R (tI R b) x_3.1 x_3.2) false) (u64N (txS' R (tI R b) x_3.1 x_3.2) false)) (txS' R (tI R b) x'.1 x'.2) ∧ x_3.1 = x'.1 ∧ Cont.structs (app [.u64] (app [.u64] [])) (app (viG (tI
  R b) x_3.1 x_3.2) [[u64V R (txS' R (tI R b) x_3.1 x_3.2) false, u64V R (u64R (txS' R (tI R b) x_3.1 x_3.2) false) (u64N (txS' R (tI R b) x_3.1 x_3.2) false)]]) = Cont.structs [.u64,
  .u64] (viG (tI R b) x'.1 x'.2) ∧ (ddPut (insL (tI R b) x_2) (iOf x_2).toNat 33 (DD.n (R.nV (txT R (tI R b) x_2))) = ddPut (insL (tI R b) x_2) (iOf x_2).toNat 33 (DD.n (R.nV (txT R
  (tI R b) x_2))) ∧ (some x_2 = some x_2 ∨ some x_2 = none)) ∧ yI (tN R b) = yI (tN R b) ∧ (insL (tI R b) x_2 = insL (tI R b) x_2 ∧ (some x_2 = some x_2 ∨ some x_2 = none)) ∧ T3 ∧
  Array.mk [Value.slice none 0 0, Value.slice none 0 0, yI 0] = Array.mk [Value.slice none 0 0, Value.slice none 0 0, yI 0] ∧ True) False) False) False) False) False) False) False)
  False) False) (If ((txS' R (tI R b) x_3.1 x_3.2).length.ble 1000000) (If (Nat.beq 36 36 && Nat.blt 0 36 && (iOf x_2).toNat.blt (ddPut (insL (tI R b) x_2) (iOf x_2).toNat 33 (DD.n
  (R.nV (txT R (tI R b) x_2)))).length) (If (Nat.beq 36 36 && Nat.blt 0 36 && (iOf x_2).toNat.blt (ddPut (insL (tI R b) x_2) (iOf x_2).toNat 33 (DD.n (R.nV (txT R (tI R b)
  x_2)))).length) (If (Nat.beq 1 1 && Nat.beq 36 36 && Nat.beq 36 36 && decide (u64 = .u64) && (iOf x_2).toNat.blt (ddPut (insL (tI R b) x_2) (iOf x_2).toNat 33 (DD.n (R.nV
  (txT R (tI R b) x_2)))).length && x_3.1.blt (ddPut (insL (tI R b) x_2) (iOf x_2).toNat 33 (DD.n (R.nV (txT R (tI R b) x_2)))).length && x_2.ble x_3.1) (∃ (x' : Nat), x' ≤ (tI R
  b).length ∧ (nSub (tI R b).length x').succ ≤ nSub (tI R b).length x_2 ∧ (SV.fn (Fn.func 52) [SV.ptr 384 0] = SV.fn (Fn.func 52) [SV.ptr 384
  0] ∧ yI (i64.wrap (iAdd (iOf x_2) 1)) = yI (iOf x') ∧ yI T1 = yI T1 ∧ yI (bif iLt 64 (R.nV (txA R (tI R b) (tO R b) (tN R b) x)) then iNeg 1 else R.nV (txA R (tI R b) (tO R
  b) (tN R b) x)) = yI (bif iLt 64 (R.nV (txA R (tI R b) (tO R b) (tN R b) x)) then iNeg 1 else R.nV (txA R (tI R b) (tO R b) (tN R b) x)) ∧ yI (iOf (insL (tI R b) 0).length) = yI
  (iOf (insL (tI R b) 0).length) ∧ True) ∧ yB (u64N (txS' R (tI R b) x_3.1 x_3.2) false) = yB false ∧ EqI (u64R (txS' R (tI R b) x_3.1 x_3.2) false) (txT R (tI R b) x') ∧ yI (tN R b)
  = yI (tN R b) ∧ (ddPut (ddPut (ddPut (insL (tI R b) x_2) (iOf x_2).toNat 33 (DD.n (R.nV (txT R (tI R b) x_2)))) x_3.1 34 (DD.s (List.map (fun (x : List Int) => List.map DD.n x) (viG
  (tI R b) x_3.1 x_3.2)))) (iOf x_2).toNat 35 (DD.n (u64V R (txS' R (tI R b) x_3.1 x_3.2) false)) = insL (tI R b) x' ∧ (some x' = some (nAdd x_3.1 1) ∨ some x' = none)) ∧ T3 ∧
  Array.mk [Value.slice none 0 0, Value.slice none 0 0, yI 0] = Array.mk [Value.slice none 0 0, Value.slice none 0 0, yI 0] ∧ True) False) False) False) False))) False) False) False)
  False) False) False) False) (If (iLt T1 0) (T2 ∧ True ∧ False) (If (iLt (bif iLt 64 (R.nV (txA R (tI R b) (tO R b) (tN R b) x)) then iNeg 1 else R.nV (txA R (tI R b) (tO R b) (tN R
  b) x)) 0) (T2 ∧ True ∧ False) (If (iLt 0 (iOf (txT R (tI R b) x_2).length)) (T2 ∧ True ∧ False) (If (txW O (List.map vI (insL (tI R b) x_2)) (List.map vO (List.map cO (tO R b))) (tN
  R b)) (If (!txOk O (List.map vI (insL (tI R b) x_2)) (List.map vO (List.map cO (tO R b))) (tN R b)) (T2 ∧ True ∧ False) ((yI (tN R b) = yI (tN R b) ∧ yB true = yB true) ∧ True ∧
  (insL (tI R b) x_2 = List.map cI (tI R b) ∧ (none = some x_2 ∨ (none : Option Nat) = none)) ∧ T3 ∧ True)) False))))) False)) False)) False) False := by
 conv => zeta
 have h0' := zbL h0
 unfold txIs at h1
 rw [zaT, zaT] at h1
 obtain ⟨⟨k, kw⟩, kb⟩ := h1
 have kb := of_decide_eq_true kb
 obtain ⟨I, hI⟩ : ∃ I, tI R b = I := ⟨_, rfl⟩
 obtain ⟨U, hU⟩ : ∃ U, tO R b = U := ⟨_, rfl⟩
 obtain ⟨N, hN⟩ : ∃ N, tN R b = N := ⟨_, rfl⟩
 rw [hI, hU, hN] at k kw kb ⊢
 obtain ⟨k1, k2, k3, k4, k5, k6⟩ := txOk_iff.1 k
 obtain ⟨t1, t2, t3, t4, t5⟩ := txW_iff.1 kw
 obtain ⟨p1, p2, p3⟩ := num_fwd hr (n := (I.length : Int)) (by omega) (by omega) (txA R I U N 0)
 rw [← txB_eq, kb] at p1 p2 p3
 have c64 : (bif iLt 64 (I.length : Int) then iNeg 1 else (I.length : Int)) = (I.length : Int) := by
  rw [show iLt 64 (I.length : Int) = false by simp only [Bz, Sx.Cont.n]; omega, cond_false]
 rw [p1, p2, p3, c64]
 refine ziT h0 (ziT h0 ⟨⟨0, Nat.zero_le _, (by repeat' (first | exact True.intro | exact rfl | refine ⟨?_, ?_⟩))⟩, fun x x1 => ?_⟩)
 have lA := txA_len hr t1 k x
 refine Sx.if_both (fun d => ?_) (fun d => ?_)
 ·simp only [Bz, Sx.Cont.n, zUn] at d
  have hx : x < I.length := by omega
  have w1 : i64.wrap (iAdd (iOf x) 1) = iOf (x + 1) := by simp only [zUn]; rw [IntKind.wrap_i64]; omega
  obtain ⟨v, hv⟩ : ∃ v, viAt I x = v := ⟨_, rfl⟩
  obtain ⟨q1, q2, _, _, _⟩ := txo_in k5 hx
  obtain ⟨v1, _⟩ := inW_iff.1 (List.all_eq_true.1 t1 _ (viAt_mem hx))
  have eA := txA_at R U N hx
  rw [hv] at q1 q2 v1 eA
  obtain ⟨g1, g2, g3⟩ := hsh_fwd v1 (R.row v.n ++ txA R I U N (x + 1))
  rw [← eA] at g1 g2 g3
  obtain ⟨r1, r2, r3⟩ := num_fwd hr q1 (by omega) (txA R I U N (x + 1))
  have lB := rowT_len hr v.n
  have lC := txA_len hr t1 k (x + 1)
  rw [w1, g1, g2, g3, r1, r2, r3]
  refine ziT (by rw [Nat.ble_eq]; omega) (ziT (by rw [Nat.ble_eq, zlA]; omega) (ziT (by simp only [zUn, List.length_map, List.length_take, zaT, Nat.ble_eq]; omega) ⟨x + 1, hx, (by simp only [zUn]; omega), (by repeat' (first | exact True.intro | exact rfl | refine ⟨?_, ?_⟩)), rfl, rfl, rfl, ⟨?_, .inl rfl⟩, rfl, trivial⟩))
  rw [take_snoc' ⟨[], 0, 0, [], 0⟩ hx, List.map_append]
  show _ ++ [v.h.map DD.n ++ [DD.n v.n, .n 0, .s [], .n 0]] = _ ++ [cJ (viAt I x)]
  rw [hv]; rfl
 simp only [Bz, Sx.Cont.n, zUn] at d
 obtain rfl : x = I.length := by omega
 obtain ⟨r1, r2, r3⟩ := num_fwd hr (n := (U.length : Int)) (by omega) (by omega) (txU R I U N 0)
 rw [← txA_end R I U N] at r1 r2 r3
 have d64 : (bif iLt 64 (U.length : Int) then iNeg 1 else (U.length : Int)) = (U.length : Int) := by
  rw [show iLt 64 (U.length : Int) = false by simp only [Bz, Sx.Cont.n]; omega, cond_false]
 rw [r1, r2, r3, d64, List.take_length]
 refine ziT (by rw [Nat.ble_eq]; omega) ⟨⟨0, Nat.zero_le _, (by repeat' (first | exact True.intro | exact rfl | refine ⟨?_, ?_⟩)), rfl, rfl, rfl, ⟨rfl, .inl rfl⟩, ⟨rfl, rfl⟩, rfl, trivial⟩, fun x y1 => ?_⟩
 have lU := txU_len hr k x
 refine Sx.if_both (fun d => ?_) (fun d => ?_)
 ·simp only [Bz, Sx.Cont.n, zUn] at d
  have hx : x < U.length := by omega
  have w1 : i64.wrap (iAdd (iOf x) 1) = iOf (x + 1) := by simp only [zUn]; rw [IntKind.wrap_i64]; omega
  obtain ⟨v, hv⟩ : ∃ v, voAt U x = v := ⟨_, rfl⟩
  obtain ⟨q1, q2, q3⟩ := txo_ou k6 hx
  obtain ⟨z1, _⟩ := ouW_iff.1 (List.all_eq_true.1 t2 _ (voAt_mem hx))
  have eU := txU_at R I N hx
  rw [hv] at q1 q2 q3 z1 eU
  have lk := lkB_len hr q3
  obtain ⟨r1, r2, r3⟩ := num_fwd hr q1 (by omega) (R.row ((lkB R v.b).length : Int) ++ (lkB R v.b ++ txU R I U N (x + 1)))
  rw [← eU] at r1 r2 r3
  obtain ⟨s1, s2, s3⟩ := num_fwd hr (n := ((lkB R v.b).length : Int)) (by omega) (by omega) (lkB R v.b ++ txU R I U N (x + 1))
  obtain ⟨f1, f2⟩ := lk_fwd hr q3 z1
  have l2 := txU_len hr k (x + 1)
  have l3 := rowT_len hr ((lkB R v.b).length : Int)
  rw [w1, r1, r2, r3, s1, s2, s3, ztN, List.take_left, List.drop_left, f1, f2]
  refine ziT (by rw [Nat.ble_eq]; omega) (ziT (by rw [show (!(bif true then false else true)) = true from rfl]; simp only [Bz, Sx.Cont.n, zUn, zlA, and_true]; omega) (ziT (by rw [Bool.and_true, Nat.ble_eq]; omega) (ziT (by simp only [zUn, List.length_map, List.length_take, zaT, Nat.ble_eq]; omega) ⟨x + 1, hx, (by simp only [zUn]; omega), (by repeat' (first | exact True.intro | exact rfl | refine ⟨?_, ?_⟩)), rfl, rfl, rfl, ⟨rfl, .inl rfl⟩, ⟨?_, .inl rfl⟩, rfl, trivial⟩)))
  rw [take_snoc' ⟨0, []⟩ hx, List.map_append]
  show _ ++ [[DD.n v.a, DD.s (v.b.map cB)]] = _ ++ [cO (voAt U x)]
  rw [hv]; rfl
 simp only [Bz, Sx.Cont.n, zUn] at d
 obtain rfl : x = U.length := by omega
 obtain ⟨r1, r2, r3⟩ := num_fwd hr k4 t3 (txT R I 0)
 rw [← txU_end R I U N] at r1 r2 r3
 rw [r1, r2, r3, List.take_length, insL_len]
 refine ziT (by rw [Nat.ble_eq]; omega) ⟨⟨0, Nat.zero_le _, (by repeat' (first | exact True.intro | exact rfl | refine ⟨?_, ?_⟩)), rfl, rfl, rfl, ⟨rfl, .inl rfl⟩, ⟨rfl, .inl rfl⟩, rfl, trivial⟩, fun x y2 => ?_⟩
 have hn : (iOf x).toNat = x := by simp only [zUn, ztN]
 rw [hn, insL_len]
 have lT := txT_len (O := O) hr k5 k2 x
 refine Sx.if_both (fun d => ?_) (fun d => ?_)
 ·simp only [Bz, Sx.Cont.n, zUn] at d
  have hx : x < I.length := by omega
  have hb : x.blt I.length = true := by rw [Nat.blt_eq]; exact hx
  have w1 : i64.wrap (iAdd (iOf x) 1) = iOf (x + 1) := by simp only [zUn]; rw [IntKind.wrap_i64]; omega
  obtain ⟨v, hv⟩ : ∃ v, viAt I x = v := ⟨_, rfl⟩
  obtain ⟨_, _, q1, q2, q3⟩ := txo_in k5 hx
  obtain ⟨v1, v2, v3, v4, v5⟩ := inW_iff.1 (List.all_eq_true.1 t1 _ (viAt_mem hx))
  have eT := txT_at R hx
  have hN : viN I x = (viAt I x).g.length := rfl
  rw [hv] at q1 q2 q3 v1 v2 v3 v4 v5 eT hN
  obtain ⟨r1, r2, r3⟩ := num_fwd hr q1 (by omega) (R.row (v.g.length : Int) ++ txS' R I x 0)
  rw [← eT] at r1 r2 r3
  obtain ⟨s1, s2, s3⟩ := num_fwd hr (n := (v.g.length : Int)) (by omega) (by omega) (txS' R I x 0)
  have c12 : (bif iLt 12 (v.g.length : Int) then iNeg 1 else (v.g.length : Int)) = (v.g.length : Int) := by
   rw [show iLt 12 (v.g.length : Int) = false by simp only [Bz, Sx.Cont.n]; omega, cond_false]
  have lS := txS_len hr k5 k2 hx 0
  have l3 := rowT_len hr (v.g.length : Int)
  have hp := insL_put hx (by rw [hv]; exact v1)
  rw [hv] at hp
  obtain ⟨A, hA⟩ : ∃ A, ddPut (insL I x) x 33 (DD.n v.b) = A := ⟨_, rfl⟩
  have hAl : A.length = I.length := by rw [← hA]; unfold ddPut; rw [List.length_set, insL_len]
  rw [hA] at hp
  rw [w1, r1, r2, r3, s1, s2, s3, c12, hA, hAl, hb]
  have bb : x.ble x = true := by rw [Nat.ble_eq]; exact Nat.le_refl x
  have be : Nat.beq x x = true := by rw [Nat.beq_eq]
  refine ziT (by simp only [Bz, Sx.Cont.n, zUn]; exact ⟨by decide, by omega, trivial⟩) (ziT rfl (ziT (by rw [Nat.ble_eq]; omega) (ziT rfl (ziT rfl (ziT (by rw [bb]; rfl) (ziT (by rw [Nat.ble_eq, zlA]; omega) (Sx.if_false (by simp only [Bz, Sx.Cont.n]; omega) ⟨(x, 0), Nat.zero_le _, ⟨(by repeat' (first | exact True.intro | exact rfl | refine ⟨?_, ?_⟩)), rfl, rfl, rfl, rfl, ⟨rfl, .inl rfl⟩, rfl, ⟨rfl, .inl rfl⟩, ⟨rfl, .inl rfl⟩, rfl, trivial⟩, fun y z1 z2 => ?_⟩)))))))
  obtain ⟨y0, q⟩ := y
  have z2 : y0 = x := z2
  rw [z2] at z1 ⊢
  clear z2
  replace z1 : q ≤ viN I x := z1
  dsimp only
  rw [hb, be, bb]
  have lq := txS_len hr k5 k2 hx q
  refine Sx.if_both (fun e => ?_) (fun e => ?_)
  ·simp only [Bz, Sx.Cont.n, zUn] at e
   have hq : q < viN I x := by omega
   have hqg : q < v.g.length := by omega
   have w5 : i64.wrap (iAdd (iOf q) 1) = iOf (q + 1) := by simp only [zUn]; rw [IntKind.wrap_i64]; omega
   have sg : sgW (v.g.getD q []) = true := by
    rw [List.getD_eq_getElem?_getD, List.getElem?_eq_getElem hqg]
    exact List.all_eq_true.1 v3 _ (List.getElem_mem hqg)
   obtain ⟨s0, s4, s5⟩ := sgW_iff.1 sg
   have eS := txS_at R I hq
   rw [hv] at eS
   obtain ⟨u1, u2, u3⟩ := u64_fwd hr s4 (u64B ((v.g.getD q []).getD 1 0) ++ txS' R I x (q + 1))
   rw [← eS] at u1 u2 u3
   obtain ⟨e1, e2, e3⟩ := u64_fwd hr s5 (txS' R I x (q + 1))
   have lG : (viG I x q).length ≤ 12 := by unfold viG; rw [List.length_take, hv]; omega
   have l4 := txS_len hr k5 k2 hx (q + 1)
   rw [w5, u1, u2, u3, e1, e2, e3]
   refine ziT rfl (ziT rfl (ziT rfl (ziT (by rw [Nat.ble_eq]; omega) (ziT (by rw [Nat.ble_eq, zlA, u64B_len]; omega) (ziT (by simp only [zUn, zaT, Nat.ble_eq]; omega) (ziT rfl (ziT rfl (ziT rfl ⟨(x, q + 1), hq, rfl, (by simp only [zUn]; omega), (by repeat' (first | exact True.intro | exact rfl | refine ⟨?_, ?_⟩)), rfl, rfl, rfl, ?_, ⟨rfl, .inl rfl⟩, rfl, ⟨rfl, .inl rfl⟩, ⟨rfl, .inl rfl⟩, rfl, trivial⟩))))))))
   show Cont.structs [u64, u64] (viG I x q ++ [[(v.g.getD q []).getD 0 0, (v.g.getD q []).getD 1 0]]) = Cont.structs [u64, u64] (viG I x (q + 1))
   rw [← two' s0]
   unfold viG
   rw [hv, take_snoc' [] hqg]
  ·simp only [Bz, Sx.Cont.n, zUn] at e
   obtain rfl : q = viN I x := by omega
   have eE := txS_end R I x
   rw [hv] at eE
   obtain ⟨u1, u2, u3⟩ := u64_fwd hr v4 (txT R I (x + 1))
   rw [← eE] at u1 u2 u3
   rw [u1, u2, u3]
   refine ziT (by rw [Nat.ble_eq]; omega) (ziT rfl (ziT rfl (ziT rfl ⟨x + 1, hx, (by simp only [zUn]; omega), (by repeat' (first | exact True.intro | exact rfl | refine ⟨?_, ?_⟩)), rfl, rfl, rfl, ⟨?_, .inl rfl⟩, ⟨rfl, .inl rfl⟩, rfl, trivial⟩)))
   have eg : viG I x (viN I x) = v.g := by unfold viG viN; rw [List.take_length, hv]
   rw [eg]; exact hp
 ·simp only [Bz, Sx.Cont.n, zUn] at d
  obtain rfl : x = I.length := by omega
  have hh : ∀ v ∈ I, v.h.length = 32 := fun v hv => (inW_iff.1 (List.all_eq_true.1 t1 v hv)).1
  rw [insL_end, vI_cIs hh, vO_cOs, txT_end, k, kw]
  exact Sx.if_false (by simp only [Bz, Sx.Cont.n]; omega) (Sx.if_false (by simp only [Bz, Sx.Cont.n]; omega) (Sx.if_false rfl (ziT rfl (Sx.if_false rfl ⟨⟨rfl, rfl⟩, trivial, ⟨rfl, .inr rfl⟩, ⟨rfl, .inl rfl⟩, trivial⟩))))
theorem ok_txread (I : Sx.Interp) (O : OO) (hO : O = oo) (R : OB) (hR : R = bO) : Sx.SpecOK I Try.prog 27 (pspec [.ro .u8] true (g_txread O R)) := by
 refine spec_pI (spZt5_ok I O hO R hR) (by kernel_rfl) (fun ds => match ds with | [.ints b] => [⟨Nat, [2, 7, 20], [(100016, 5, .ints .u8 []), (100004, 101, .structs (List.replicate 36 .i64) []), (1000100004, 101, .structs (List.replicate 36 .i64) [])], fun B j => [(4, .ptr 192 0), (5, .ptr 384 0), (6, .fn (.func 52) [.ptr 384 0]), (16, .ptr 320 0), (21, .v (.int .i64 (j : Nat)))], fun B j => [(384, .blk 76 [.ptr 320 0]), (320, .blk 127 [.row B, .v (.bool false)]), (B, .ro (.ints .u8 (txA R (tI R b) (tO R b) (tN R b) j))), (192, .blk 64 [.row (B + 1), .v (.slice none 0 0), .v (.int .i64 0)]), (B + 1, .ownq 101 36 (B + 2)), (B + 2, .dpool inD (((tI R b).take j).map cJ) (some 0))], fun j => j ≤ (tI R b).length, fun j => (tI R b).length - j, 0⟩, ⟨Nat, [2, 7, 8, 37], [(100016, 5, .ints .u8 []), (100004, 101, .structs (List.replicate 36 .i64) []), (1000100004, 101, .structs (List.replicate 36 .i64) []), (200004, 106, .structs [.i64, .i64] []), (1000200004, 106, .structs [.i64, .i64] [])], fun B j => [(4, .ptr 192 0), (5, .ptr 384 0), (6, .fn (.func 52) [.ptr 384 0]), (16, .ptr 320 0), (38, .v (.int .i64 (j : Nat)))], fun B j => [(384, .blk 76 [.ptr 320 0]), (320, .blk 127 [.row B, .v (.bool false)]), (B, .ro (.ints .u8 (txU R (tI R b) (tO R b) (tN R b) j))), (192, .blk 64 [.row (B + 1), .row (B + 3), .v (.int .i64 0)]), (B + 1, .ownq 101 36 (B + 2)), (B + 2, .dpool inD (insL (tI R b) 0) (some 0)), (B + 3, .ownq 106 2 (B + 4)), (B + 4, .dpool ouD (((tO R b).take j).map cO) none)], fun j => j ≤ (tO R b).length, fun j => (tO R b).length - j, 0⟩, ⟨Nat, [2, 7, 8, 66], [(100016, 5, .ints .u8 []), (100004, 101, .structs (List.replicate 36 .i64) []), (1000100004, 101, .structs (List.replicate 36 .i64) []), (200004, 106, .structs [.i64, .i64] []), (1000200004, 106, .structs [.i64, .i64] [])], fun B j => [(4, .ptr 192 0), (5, .ptr 384 0), (6, .fn (.func 52) [.ptr 384 0]), (16, .ptr 320 0), (65, .row (B + 1)), (67, .v (.int .i64 (j : Nat)))], fun B j => [(384, .blk 76 [.ptr 320 0]), (320, .blk 127 [.row B, .v (.bool false)]), (B, .ro (.ints .u8 (txT R (tI R b) j))), (192, .blk 64 [.row (B + 1), .row (B + 3), .v (.int .i64 (tN R b))]), (B + 1, .ownq 101 36 (B + 2)), (B + 2, .dpool inD (insL (tI R b) j) (some j)), (B + 3, .ownq 106 2 (B + 4)), (B + 4, .dpool ouD ((tO R b).map cO) none)], fun j => j ≤ (tI R b).length, fun j => (tI R b).length - j, 0⟩, ⟨Nat × Nat, [2, 4, 7, 8, 12, 13, 14, 65, 66, 67, 85], [(100016, 5, .ints .u8 []), (2000000013, 111, .ints .u8 [])], fun B x => [(5, .ptr 384 0), (6, .fn (.func 52) [.ptr 384 0]), (16, .ptr 320 0), (86, .v (.int .i64 (x.2 : Nat)))], fun B x => [(384, .blk 76 [.ptr 320 0]), (320, .blk 127 [.row B, .v (.bool false)]), (B, .ro (.ints .u8 (txS' R (tI R b) x.1 x.2))), (1942, .ownh 101 36 2842 x.1 34 (B + 1)), (B + 1, .own 111 (.structs [.u64, .u64] (viG (tI R b) x.1 x.2)))], fun x => x.2 ≤ viN (tI R b) x.1, fun x => viN (tI R b) x.1 - x.2, .fix Prod.fst⟩] | _ => []) Try.func27 (by kernel_rfl) (by kernel_rfl) rfl Try.ntmps27 (by decide) ?_ ?_
 ·intro ds p bs F h
  unfold g_txread at h
  split at h
  ·rename_i b
   simp only [zsI, zpI] at h
   obtain ⟨_, _, rfl⟩ := h
   kernel_rfl
  ·cases h
 ·intro ds bs F hl h
  unfold g_txread at h
  split at h
  ·rename_i b
   simp only [zsI, zpI, zaT] at h
   obtain ⟨⟨h0, h1⟩, _, rfl⟩ := h
   exact Eq.mpr (by kernel_rfl) (vc_txread O R b (fo_oo O hO) hR (by first | exact h0 | (simp only [zaT]; exact h0)) (by first | exact h1 | (simp only [zaT]; exact h1)))
  ·cases h
def spZt6 (O : OO) (R : OB) (f : FuncId) : Option Sx.Spec := match f with
 | 27 => some (pspec [.ro .u8] true (g_txread O R))
 | f => spZt5 O R f
theorem spZt6_ok (I : Sx.Interp) (O : OO) (hO : O = oo) (R : OB) (hR : R = bO) : ∀ f s, spZt6 O R f = some s → Sx.SpecOK I Try.prog f s := by
 intro f s h
 unfold spZt6 at h
 split at h
 · cases h; exact ok_txread I O hO R hR
 ·exact spZt5_ok I O hO R hR _ s h
end Go.Proofs.Ytaohpdhhbnempaa
