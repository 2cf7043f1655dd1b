/- Sheet: the walk of SheetHolds (printed by genSh.py; VCs by VcTool). -/
import Derived.Test.YtgekiddgdjeaiaaShF
import Derived.Test.YtgekiddgdjeaiaaSlT
namespace Go.Proofs.Ytgekiddgdjeaiaa
open Go.RowKit Go.Lib Ckp Cfd Cpd Sx
set_option linter.unusedVariables false
set_option linter.unusedSimpArgs false
set_option maxRecDepth 1000000
def KAl : List IntKind := [.i64, .i64, .i64, .i64, .u64, .i64, .u64, .i64]
def actsB (m : List (List Int)) : Bool := m.all fun x => inU (x.getD 4 0) 18446744073709551616 && inU (x.getD 6 0) 18446744073709551616 && Nat.beq x.length 8
theorem dummyE : True := trivial
def g_sholds (O : OO) (Y : OY) (ds : List Dt) : Option (Bool × List Bool × (List Bool → Post)) := match ds with
 | [.v (.agg ch), .node [.v (.int .i64 no), .v (.int .i64 h0), .v (.int .i64 h1), .structs l, .v (.int .i64 rt)], .structs m] => some ((chB ch) && (Nat.ble l.length 9223372036854775807) && (cnd l) && (actsB m) && (Nat.ble m.length 9223372036854775807), [], fun _ => ⟨[.v (.bool true)], []⟩)
 | _ => none
set_option maxHeartbeats 4000000 in
theorem vc_sholds (O : OO) (Y : OY) (c : Nat → Int) (no h0 h1 rt : Int) (l : List (List Int)) (m : List (List Int)) (F : FO O) (hy : Y = yO O) (hc : chB (chA c) = true) (g0 : Nat.ble l.length 9223372036854775807 = true) (g1 : cnd l = true) (g2 : actsB m = true) (g3 : Nat.ble m.length 9223372036854775807 = true) (ec : cz (chA c) = c) :
 If (!fewB h0 h1 rt l) (Value.bool true = Value.bool true ∧ True ∧ True) (If (iLt 40 (iOf (Cont.structs [.i64, .i64, .i64, .i64, .u64, .i64, .u64, .i64] m).n)) (Value.bool true =
  Value.bool true ∧ True ∧ True) (If (chB (chA c) && l.length.ble 1000 && cnd l) ((∃ (x : Nat × (Int × Int × Int) × List (List Int)), (x.1 ≤ m.length ∧ (cnd x.2.2 = true ∧
  x.2.2.length ≤ 1000) ∧ rightO O c no x.snd.1.1 x.snd.fst.2.1 x.snd.fst.2.2 x.2.2 = rightO O c no h0 h1 rt l) ∧ (Value.int .i64 0 = Value.int .i64 (iOf x.1) ∧ Value.bool false =
  Value.bool false ∧ Value.bool true = Value.bool true ∧ Value.bool (rightO O (cz (chA c)) no h0 h1 rt l) = Value.bool (rightO O (cz (chA c)) no h0 h1 rt l) ∧ True) ∧ Cont.structs
  [.i64, .i64, .i64, .u64, .i64] l = Cont.structs [.i64, .i64, .i64, .u64, .i64] x.2.2 ∧ (Value.int .i64 no = Value.int .i64 no ∧ Value.int .i64 h0 = Value.int .i64 x.snd.1.1 ∧
  Value.int .i64 h1 = Value.int .i64 x.snd.fst.2.1 ∧ Value.int .i64 rt = Value.int .i64 x.snd.fst.2.2) ∧ (Value.int .i64 no = Value.int .i64 no ∧ Value.int .i64 h0 = Value.int .i64 h0
  ∧ Value.int .i64 h1 = Value.int .i64 h1 ∧ Value.int .i64 rt = Value.int .i64 rt) ∧ chA c = chA c ∧ Cont.structs [.i64, .i64, .i64, .u64, .i64] l = Cont.structs [.i64, .i64, .i64,
  .u64, .i64] l ∧ Cont.structs [.i64, .i64, .i64, .i64, .u64, .i64, .u64, .i64] m = Cont.structs [.i64, .i64, .i64, .i64, .u64, .i64, .u64, .i64] m ∧ True) ∧ ∀ (x : Nat × (Int × Int ×
  Int) × List (List Int)), x.1 ≤ m.length ∧ (cnd x.2.2 = true ∧ x.2.2.length ≤ 1000) ∧ rightO O c no x.snd.1.1 x.snd.fst.2.1 x.snd.fst.2.2 x.2.2 = rightO O c no h0 h1 rt l → If (iLt
  (iOf x.fst) (iOf (Cont.structs [.i64, .i64, .i64, .i64, .u64, .i64, .u64, .i64] m).n)) (If (iLe 0 (iOf x.fst) && (iOf x.1).toNat.blt m.length) (If (true && Nat.beq 8 8 && (iOf
  x.1).toNat.blt m.length) (If (chB (chA c) && x.2.2.length.ble 1000 && cnd x.2.2 && inU ((m.getD (iOf x.1).toNat []).getD 4 0) 18446744073709551616 && inU ((m.getD (iOf x.1).toNat
  []).getD 6 0) 18446744073709551616) (If (iBeq (dE O (cz (chA c)) no x.snd.1.1 x.snd.fst.2.1 x.snd.fst.2.2 x.2.2 ((m.getD (iOf x.1).toNat []).getD 0 0) ((m.getD (iOf x.1).toNat
  []).getD 1 0) ((m.getD (iOf x.1).toNat []).getD 2 0) ((m.getD (iOf x.1).toNat []).getD 3 0) ((m.getD (iOf x.1).toNat []).getD 4 0) ((m.getD (iOf x.1).toNat []).getD 5 0) ((m.getD
  (iOf x.1).toNat []).getD 6 0) ((m.getD (iOf x.1).toNat []).getD 7 0)) 0) (If (!rightO O (cz (chA c)) no h0 h1 rt l) (Value.bool false = Value.bool true ∧ True ∧ True) (If (chB (chA
  c) && (dL x.2.2 ((m.getD (iOf x.1).toNat []).getD 0 0) ((m.getD (iOf x.1).toNat []).getD 1 0) ((m.getD (iOf x.1).toNat []).getD 2 0) ((m.getD (iOf x.1).toNat []).getD 3 0) ((m.getD
  (iOf x.1).toNat []).getD 4 0) ((m.getD (iOf x.1).toNat []).getD 5 0)).length.ble 1000 && cnd (dL x.2.2 ((m.getD (iOf x.1).toNat []).getD 0 0) ((m.getD (iOf x.1).toNat []).getD 1 0)
  ((m.getD (iOf x.1).toNat []).getD 2 0) ((m.getD (iOf x.1).toNat []).getD 3 0) ((m.getD (iOf x.1).toNat []).getD 4 0) ((m.getD (iOf x.1).toNat []).getD 5 0))) (If (!rightO O (cz (chA
  c)) no (dH0 x.snd.1.1 x.2.2 ((m.getD (iOf x.1).toNat []).getD 0 0) ((m.getD (iOf x.1).toNat []).getD 1 0) ((m.getD (iOf x.1).toNat []).getD 2 0) ((m.getD (iOf x.1).toNat []).getD 3
  0)) (dH1 x.snd.fst.2.1 x.2.2 ((m.getD (iOf x.1).toNat []).getD 0 0) ((m.getD (iOf x.1).toNat []).getD 1 0) ((m.getD (iOf x.1).toNat []).getD 2 0) ((m.getD (iOf x.1).toNat []).getD 3
  0)) (dRt x.snd.fst.2.2 ((m.getD (iOf x.1).toNat []).getD 0 0) ((m.getD (iOf x.1).toNat []).getD 7 0)) (dL x.2.2 ((m.getD (iOf x.1).toNat []).getD 0 0) ((m.getD (iOf x.1).toNat
  []).getD 1 0) ((m.getD (iOf x.1).toNat []).getD 2 0) ((m.getD (iOf x.1).toNat []).getD 3 0) ((m.getD (iOf x.1).toNat []).getD 4 0) ((m.getD (iOf x.1).toNat []).getD 5 0)))
  (Value.bool false = Value.bool true ∧ True ∧ True) (If ((dL x.2.2 ((m.getD (iOf x.1).toNat []).getD 0 0) ((m.getD (iOf x.1).toNat []).getD 1 0) ((m.getD (iOf x.1).toNat []).getD 2
  0) ((m.getD (iOf x.1).toNat []).getD 3 0) ((m.getD (iOf x.1).toNat []).getD 4 0) ((m.getD (iOf x.1).toNat []).getD 5 0)).length.ble 1000) (If (iBne (totP (dH0 x.snd.1.1 x.2.2
  ((m.getD (iOf x.1).toNat []).getD 0 0) ((m.getD (iOf x.1).toNat []).getD 1 0) ((m.getD (iOf x.1).toNat []).getD 2 0) ((m.getD (iOf x.1).toNat []).getD 3 0)) (dH1 x.snd.fst.2.1 x.2.2
  ((m.getD (iOf x.1).toNat []).getD 0 0) ((m.getD (iOf x.1).toNat []).getD 1 0) ((m.getD (iOf x.1).toNat []).getD 2 0) ((m.getD (iOf x.1).toNat []).getD 3 0)) (dL x.2.2 ((m.getD (iOf
  x.1).toNat []).getD 0 0) ((m.getD (iOf x.1).toNat []).getD 1 0) ((m.getD (iOf x.1).toNat []).getD 2 0) ((m.getD (iOf x.1).toNat []).getD 3 0) ((m.getD (iOf x.1).toNat []).getD 4 0)
  ((m.getD (iOf x.1).toNat []).getD 5 0))) (c 33)) (Value.bool false = Value.bool true ∧ True ∧ True) (If ((dL x.2.2 ((m.getD (iOf x.1).toNat []).getD 0 0) ((m.getD (iOf x.1).toNat
  []).getD 1 0) ((m.getD (iOf x.1).toNat []).getD 2 0) ((m.getD (iOf x.1).toNat []).getD 3 0) ((m.getD (iOf x.1).toNat []).getD 4 0) ((m.getD (iOf x.1).toNat []).getD 5 0)).length.ble
  1000) (If ((dL x.2.2 ((m.getD (iOf x.1).toNat []).getD 0 0) ((m.getD (iOf x.1).toNat []).getD 1 0) ((m.getD (iOf x.1).toNat []).getD 2 0) ((m.getD (iOf x.1).toNat []).getD 3 0)
  ((m.getD (iOf x.1).toNat []).getD 4 0) ((m.getD (iOf x.1).toNat []).getD 5 0)).length.ble 1000) (If (iBne (IntKind.i64.wrap (iAdd (bif !allW 0 1 [0] then 0 else IntKind.i64.wrap
  (iAdd (haveO (dH0 x.snd.1.1 x.2.2 ((m.getD (iOf x.1).toNat []).getD 0 0) ((m.getD (iOf x.1).toNat []).getD 1 0) ((m.getD (iOf x.1).toNat []).getD 2 0) ((m.getD (iOf x.1).toNat
  []).getD 3 0)) (dH1 x.snd.fst.2.1 x.2.2 ((m.getD (iOf x.1).toNat []).getD 0 0) ((m.getD (iOf x.1).toNat []).getD 1 0) ((m.getD (iOf x.1).toNat []).getD 2 0) ((m.getD (iOf x.1).toNat
  []).getD 3 0)) 0) (offM (IntKind.i64.wrap (iSub 1 0)) (dL x.2.2 ((m.getD (iOf x.1).toNat []).getD 0 0) ((m.getD (iOf x.1).toNat []).getD 1 0) ((m.getD (iOf x.1).toNat []).getD 2 0)
  ((m.getD (iOf x.1).toNat []).getD 3 0) ((m.getD (iOf x.1).toNat []).getD 4 0) ((m.getD (iOf x.1).toNat []).getD 5 0))))) (bif !allW 0 1 [1] then 0 else IntKind.i64.wrap (iAdd (haveO
  (dH0 x.snd.1.1 x.2.2 ((m.getD (iOf x.1).toNat []).getD 0 0) ((m.getD (iOf x.1).toNat []).getD 1 0) ((m.getD (iOf x.1).toNat []).getD 2 0) ((m.getD (iOf x.1).toNat []).getD 3 0))
  (dH1 x.snd.fst.2.1 x.2.2 ((m.getD (iOf x.1).toNat []).getD 0 0) ((m.getD (iOf x.1).toNat []).getD 1 0) ((m.getD (iOf x.1).toNat []).getD 2 0) ((m.getD (iOf x.1).toNat []).getD 3 0))
  1) (offM (IntKind.i64.wrap (iSub 1 1)) (dL x.2.2 ((m.getD (iOf x.1).toNat []).getD 0 0) ((m.getD (iOf x.1).toNat []).getD 1 0) ((m.getD (iOf x.1).toNat []).getD 2 0) ((m.getD (iOf
  x.1).toNat []).getD 3 0) ((m.getD (iOf x.1).toNat []).getD 4 0) ((m.getD (iOf x.1).toNat []).getD 5 0))))))) (c 33)) (Value.bool false = Value.bool true ∧ True ∧ True) (If (iBne no
  no) (Value.bool false = Value.bool true ∧ True ∧ True) (If (iEq (c 56) (iOf 0)) (If (chB (chA c) && (dL x.2.2 ((m.getD (iOf x.1).toNat []).getD 0 0) ((m.getD (iOf x.1).toNat
  []).getD 1 0) ((m.getD (iOf x.1).toNat []).getD 2 0) ((m.getD (iOf x.1).toNat []).getD 3 0) ((m.getD (iOf x.1).toNat []).getD 4 0) ((m.getD (iOf x.1).toNat []).getD 5 0)).length.ble
  1000) (If (iLt (dH0 x.snd.fst.fst x.snd.snd ((m.getD (iOf x.fst).toNat []).getD 0 0) ((m.getD (iOf x.fst).toNat []).getD (nAdd 0 1) 0) ((m.getD (iOf x.fst).toNat []).getD (nAdd
  (nAdd 0 1) 1) 0) ((m.getD (iOf x.fst).toNat []).getD (nAdd (nAdd (nAdd 0 1) 1) 1) 0)) (costO (dRt x.snd.fst.snd.snd ((m.getD (iOf x.fst).toNat []).getD 0 0) ((m.getD (iOf
  x.fst).toNat []).getD (nAdd (nAdd (nAdd (nAdd (nAdd (nAdd (nAdd 0 1) 1) 1) 1) 1) 1) 1) 0)) (iOf (dL x.snd.snd ((m.getD (iOf x.fst).toNat []).getD 0 0) ((m.getD (iOf x.fst).toNat
  []).getD (nAdd 0 1) 0) ((m.getD (iOf x.fst).toNat []).getD (nAdd (nAdd 0 1) 1) 0) ((m.getD (iOf x.fst).toNat []).getD (nAdd (nAdd (nAdd 0 1) 1) 1) 0) ((m.getD (iOf x.fst).toNat
  []).getD (nAdd (nAdd (nAdd (nAdd 0 1) 1) 1) 1) 0) ((m.getD (iOf x.fst).toNat []).getD (nAdd (nAdd (nAdd (nAdd (nAdd 0 1) 1) 1) 1) 1) 0)).length))) (Value.bool false = Value.bool
  true ∧ True ∧ True) (∃ (x' : Nat × (Int × Int × Int) × List (List Int)), (x'.1 ≤ m.length ∧ (cnd x'.2.2 = true ∧ x'.2.2.length ≤ 1000) ∧ rightO O c no x'.snd.1.1 x'.snd.fst.2.1
  x'.snd.fst.2.2 x'.2.2 = rightO O c no h0 h1 rt l) ∧ (nSub m.length x'.1).succ ≤ nSub m.length x.1 ∧ (Value.int .i64 (IntKind.i64.wrap (iAdd (iOf x.1) 1)) = Value.int .i64 (iOf x'.1)
  ∧ Value.bool false = Value.bool false ∧ Value.bool true = Value.bool true ∧ Value.bool (rightO O (cz (chA c)) no h0 h1 rt l) = Value.bool (rightO O (cz (chA c)) no h0 h1 rt l) ∧
  True) ∧ Cont.structs [.i64, .i64, .i64, .u64, .i64] (dL x.2.2 ((m.getD (iOf x.1).toNat []).getD 0 0) ((m.getD (iOf x.1).toNat []).getD 1 0) ((m.getD (iOf x.1).toNat []).getD 2 0)
  ((m.getD (iOf x.1).toNat []).getD 3 0) ((m.getD (iOf x.1).toNat []).getD 4 0) ((m.getD (iOf x.1).toNat []).getD 5 0)) = Cont.structs [.i64, .i64, .i64, .u64, .i64] x'.2.2 ∧
  (Value.int .i64 no = Value.int .i64 no ∧ Value.int .i64 (dH0 x.snd.1.1 x.2.2 ((m.getD (iOf x.1).toNat []).getD 0 0) ((m.getD (iOf x.1).toNat []).getD 1 0) ((m.getD (iOf x.1).toNat
  []).getD 2 0) ((m.getD (iOf x.1).toNat []).getD 3 0)) = Value.int .i64 x'.snd.1.1 ∧ Value.int .i64 (dH1 x.snd.fst.2.1 x.2.2 ((m.getD (iOf x.1).toNat []).getD 0 0) ((m.getD (iOf
  x.1).toNat []).getD 1 0) ((m.getD (iOf x.1).toNat []).getD 2 0) ((m.getD (iOf x.1).toNat []).getD 3 0)) = Value.int .i64 x'.snd.fst.2.1 ∧ Value.int .i64 (dRt x.snd.fst.2.2 ((m.getD
  (iOf x.1).toNat []).getD 0 0) ((m.getD (iOf x.1).toNat []).getD 7 0)) = Value.int .i64 x'.snd.fst.2.2) ∧ (Value.int .i64 no = Value.int .i64 no ∧ Value.int .i64 h0 = Value.int .i64
  h0 ∧ Value.int .i64 h1 = Value.int .i64 h1 ∧ Value.int .i64 rt = Value.int .i64 rt) ∧ chA c = chA c ∧ Cont.structs [.i64, .i64, .i64, .u64, .i64] l = Cont.structs [.i64, .i64, .i64,
  .u64, .i64] l ∧ Cont.structs [.i64, .i64, .i64, .i64, .u64, .i64, .u64, .i64] m = Cont.structs [.i64, .i64, .i64, .i64, .u64, .i64, .u64, .i64] m ∧ True)) False) (If (iEq (c 56)
  (iOf (nAdd 0 1))) (If (chB (chA c) && (dL x.2.2 ((m.getD (iOf x.1).toNat []).getD 0 0) ((m.getD (iOf x.1).toNat []).getD 1 0) ((m.getD (iOf x.1).toNat []).getD 2 0) ((m.getD (iOf
  x.1).toNat []).getD 3 0) ((m.getD (iOf x.1).toNat []).getD 4 0) ((m.getD (iOf x.1).toNat []).getD 5 0)).length.ble 1000) (If (iLt (dH1 x.snd.fst.snd.fst x.snd.snd ((m.getD (iOf
  x.fst).toNat []).getD 0 0) ((m.getD (iOf x.fst).toNat []).getD (nAdd 0 1) 0) ((m.getD (iOf x.fst).toNat []).getD (nAdd (nAdd 0 1) 1) 0) ((m.getD (iOf x.fst).toNat []).getD (nAdd
  (nAdd (nAdd 0 1) 1) 1) 0)) (costO (dRt x.snd.fst.snd.snd ((m.getD (iOf x.fst).toNat []).getD 0 0) ((m.getD (iOf x.fst).toNat []).getD (nAdd (nAdd (nAdd (nAdd (nAdd (nAdd (nAdd 0 1)
  1) 1) 1) 1) 1) 1) 0)) (iOf (dL x.snd.snd ((m.getD (iOf x.fst).toNat []).getD 0 0) ((m.getD (iOf x.fst).toNat []).getD (nAdd 0 1) 0) ((m.getD (iOf x.fst).toNat []).getD (nAdd (nAdd 0
  1) 1) 0) ((m.getD (iOf x.fst).toNat []).getD (nAdd (nAdd (nAdd 0 1) 1) 1) 0) ((m.getD (iOf x.fst).toNat []).getD (nAdd (nAdd (nAdd (nAdd 0 1) 1) 1) 1) 0) ((m.getD (iOf x.fst).toNat
  []).getD (nAdd (nAdd (nAdd (nAdd (nAdd 0 1) 1) 1) 1) 1) 0)).length))) (Value.bool false = Value.bool true ∧ True ∧ True) (∃ (x' : Nat × (Int × Int × Int) × List (List Int)), (x'.1 ≤
  m.length ∧ (cnd x'.2.2 = true ∧ x'.2.2.length ≤ 1000) ∧ rightO O c no x'.snd.1.1 x'.snd.fst.2.1 x'.snd.fst.2.2 x'.2.2 = rightO O c no h0 h1 rt l) ∧ (nSub m.length x'.1).succ ≤ nSub
  m.length x.1 ∧ (Value.int .i64 (IntKind.i64.wrap (iAdd (iOf x.1) 1)) = Value.int .i64 (iOf x'.1) ∧ Value.bool false = Value.bool false ∧ Value.bool true = Value.bool true ∧
  Value.bool (rightO O (cz (chA c)) no h0 h1 rt l) = Value.bool (rightO O (cz (chA c)) no h0 h1 rt l) ∧ True) ∧ Cont.structs [.i64, .i64, .i64, .u64, .i64] (dL x.2.2 ((m.getD (iOf
  x.1).toNat []).getD 0 0) ((m.getD (iOf x.1).toNat []).getD 1 0) ((m.getD (iOf x.1).toNat []).getD 2 0) ((m.getD (iOf x.1).toNat []).getD 3 0) ((m.getD (iOf x.1).toNat []).getD 4 0)
  ((m.getD (iOf x.1).toNat []).getD 5 0)) = Cont.structs [.i64, .i64, .i64, .u64, .i64] x'.2.2 ∧ (Value.int .i64 no = Value.int .i64 no ∧ Value.int .i64 (dH0 x.snd.1.1 x.2.2 ((m.getD
  (iOf x.1).toNat []).getD 0 0) ((m.getD (iOf x.1).toNat []).getD 1 0) ((m.getD (iOf x.1).toNat []).getD 2 0) ((m.getD (iOf x.1).toNat []).getD 3 0)) = Value.int .i64 x'.snd.1.1 ∧
  Value.int .i64 (dH1 x.snd.fst.2.1 x.2.2 ((m.getD (iOf x.1).toNat []).getD 0 0) ((m.getD (iOf x.1).toNat []).getD 1 0) ((m.getD (iOf x.1).toNat []).getD 2 0) ((m.getD (iOf x.1).toNat
  []).getD 3 0)) = Value.int .i64 x'.snd.fst.2.1 ∧ Value.int .i64 (dRt x.snd.fst.2.2 ((m.getD (iOf x.1).toNat []).getD 0 0) ((m.getD (iOf x.1).toNat []).getD 7 0)) = Value.int .i64
  x'.snd.fst.2.2) ∧ (Value.int .i64 no = Value.int .i64 no ∧ Value.int .i64 h0 = Value.int .i64 h0 ∧ Value.int .i64 h1 = Value.int .i64 h1 ∧ Value.int .i64 rt = Value.int .i64 rt) ∧
  chA c = chA c ∧ Cont.structs [.i64, .i64, .i64, .u64, .i64] l = Cont.structs [.i64, .i64, .i64, .u64, .i64] l ∧ Cont.structs [.i64, .i64, .i64, .i64, .u64, .i64, .u64, .i64] m =
  Cont.structs [.i64, .i64, .i64, .i64, .u64, .i64, .u64, .i64] m ∧ True)) False) False)))) False) False)) False)) False)) (If (iBne (dE O (cz (chA c)) no x.snd.1.1 x.snd.fst.2.1
  x.snd.fst.2.2 x.2.2 ((m.getD (iOf x.1).toNat []).getD 0 0) ((m.getD (iOf x.1).toNat []).getD 1 0) ((m.getD (iOf x.1).toNat []).getD 2 0) ((m.getD (iOf x.1).toNat []).getD 3 0)
  ((m.getD (iOf x.1).toNat []).getD 4 0) ((m.getD (iOf x.1).toNat []).getD 5 0) ((m.getD (iOf x.1).toNat []).getD 6 0) ((m.getD (iOf x.1).toNat []).getD 7 0)) 0) (∃ (x' : Nat × (Int ×
  Int × Int) × List (List Int)), (x'.1 ≤ m.length ∧ (cnd x'.2.2 = true ∧ x'.2.2.length ≤ 1000) ∧ rightO O c no x'.snd.1.1 x'.snd.fst.2.1 x'.snd.fst.2.2 x'.2.2 = rightO O c no h0 h1 rt
  l) ∧ (nSub m.length x'.1).succ ≤ nSub m.length x.1 ∧ (Value.int .i64 (IntKind.i64.wrap (iAdd (iOf x.1) 1)) = Value.int .i64 (iOf x'.1) ∧ Value.bool false = Value.bool false ∧
  Value.bool true = Value.bool true ∧ Value.bool (rightO O (cz (chA c)) no h0 h1 rt l) = Value.bool (rightO O (cz (chA c)) no h0 h1 rt l) ∧ True) ∧ Cont.structs [.i64, .i64, .i64,
  .u64, .i64] x.2.2 = Cont.structs [.i64, .i64, .i64, .u64, .i64] x'.2.2 ∧ (Value.int .i64 no = Value.int .i64 no ∧ Value.int .i64 x.snd.1.1 = Value.int .i64 x'.snd.1.1 ∧ Value.int
  .i64 x.snd.fst.2.1 = Value.int .i64 x'.snd.fst.2.1 ∧ Value.int .i64 x.snd.fst.2.2 = Value.int .i64 x'.snd.fst.2.2) ∧ (Value.int .i64 no = Value.int .i64 no ∧ Value.int .i64 h0 =
  Value.int .i64 h0 ∧ Value.int .i64 h1 = Value.int .i64 h1 ∧ Value.int .i64 rt = Value.int .i64 rt) ∧ chA c = chA c ∧ Cont.structs [.i64, .i64, .i64, .u64, .i64] l = Cont.structs
  [.i64, .i64, .i64, .u64, .i64] l ∧ Cont.structs [.i64, .i64, .i64, .i64, .u64, .i64, .u64, .i64] m = Cont.structs [.i64, .i64, .i64, .i64, .u64, .i64, .u64, .i64] m ∧ True) (If
  (!rightO O (cz (chA c)) no h0 h1 rt l) (Value.bool false = Value.bool true ∧ True ∧ True) (If (chB (chA c) && Nat.ble 0 1000 && cnd []) (If (!rightO O (cz (chA c)) 0 0 0 0 [])
  (Value.bool false = Value.bool true ∧ True ∧ True) (If (iBne (totP 0 0 []) (c 33)) (Value.bool false = Value.bool true ∧ True ∧ True) (If (iBne (IntKind.i64.wrap (iAdd (bif !allW 0
  1 [0] then 0 else IntKind.i64.wrap (iAdd (haveO 0 0 0) (offM (IntKind.i64.wrap (iSub 1 0)) []))) (bif !allW 0 1 [1] then 0 else IntKind.i64.wrap (iAdd (haveO 0 0 1) (offM
  (IntKind.i64.wrap (iSub 1 1)) []))))) (c 33)) (Value.bool false = Value.bool true ∧ True ∧ True) (If (iBne 0 no) (Value.bool false = Value.bool true ∧ True ∧ True) (If (iEq (c 56)
  (iOf 0)) (If (chB (chA c) && Nat.ble 0 1000) (Value.bool false = Value.bool true ∧ True ∧ True) False) (If (iEq (c 56) (iOf (nAdd 0 1))) (If (chB (chA c) && Nat.ble 0 1000)
  (Value.bool false = Value.bool true ∧ True ∧ True) False) False)))))) False)))) False) False) False) (Value.bool true = Value.bool true ∧ True ∧ True)) False)) := by
 simp only [ec]
 refine Sx.if_both (fun _ => (by first | rfl | trivial)) (fun hf => ?_)
 have l20 := few_len hf
 have l1 : Nat.ble l.length 1000 = true := by rw [Nat.ble_eq]; omega
 refine Sx.if_both (fun _ => (by repeat' (first | exact trivial | exact rfl | refine And.intro ?_ ?_))) (fun hm => ?_)
 have m40 : m.length ≤ 40 := by simp only [Bool.and_eq_true, Bool.or_eq_true, Sx.iLt_t, Sx.iLt_f, Sx.iLe_t, Sx.iLe_f, Sx.iEq_t, Sx.iEq_f, Sx.iBeq_t, Sx.iBeq_f, Sx.iBne_t, Sx.iBne_f, Nat.ble_eq, Nat.beq_eq, Sx.Cont.n, Sx.app, Sx.nAdd, Sx.nSub, Sx.nMul, Sx.nPow, Sx.nDiv, Sx.nMod, Sx.iAdd, Sx.iSub, Sx.iMul, Sx.iNeg, Sx.iPow, Sx.iOf] at hm; omega
 refine Sx.if_true (by rw [hc, l1, g1]; rfl) ⟨⟨(0, (h0, h1, rt), l), ⟨Nat.zero_le _, ⟨g1, by show l.length ≤ 1000; omega⟩, rfl⟩, (by repeat' (first | exact trivial | exact rfl | refine And.intro ?_ ?_))⟩, fun x hx => ?_⟩
 obtain ⟨i, ⟨H0, H1, RT⟩, L⟩ := x
 obtain ⟨hx1, ⟨hx2, hx3⟩, hx4⟩ := hx
 simp only at hx1 hx2 hx3 hx4
 refine Sx.if_both (fun h => ?_) (fun h => (by repeat' (first | exact trivial | exact rfl | refine And.intro ?_ ?_)))
 simp only [Bool.and_eq_true, Bool.or_eq_true, Sx.iLt_t, Sx.iLt_f, Sx.iLe_t, Sx.iLe_f, Sx.iEq_t, Sx.iEq_f, Sx.iBeq_t, Sx.iBeq_f, Sx.iBne_t, Sx.iBne_f, Nat.ble_eq, Nat.beq_eq, Sx.Cont.n, Sx.app, Sx.nAdd, Sx.nSub, Sx.nMul, Sx.nPow, Sx.nDiv, Sx.nMod, Sx.iAdd, Sx.iSub, Sx.iMul, Sx.iNeg, Sx.iPow, Sx.iOf] at h
 have hlt : i < m.length := by omega
 have hbl : i.blt m.length = true := by rw [Nat.blt_eq]; exact hlt
 have lL : Nat.ble L.length 1000 = true := by rw [Nat.ble_eq]; exact hx3
 simp only [Sx.app, Sx.nAdd, Sx.nSub, Sx.nMul, Sx.nPow, Sx.nDiv, Sx.nMod, Sx.iAdd, Sx.iSub, Sx.iMul, Sx.iNeg, Sx.iPow, Sx.iOf, Int.toNat_natCast]
 have hy : inU ((m.getD i []).getD 4 0) 18446744073709551616 = true ∧ inU ((m.getD i []).getD 6 0) 18446744073709551616 = true := by
  unfold actsB at g2
  have := List.all_eq_true.1 g2 _ (List.getElem_mem hlt)
  rw [← getD_at hlt] at this
  simp only [Bool.and_eq_true] at this
  exact ⟨this.1.1, this.1.2⟩
 generalize m.getD i [] = y at *
 generalize y.getD 0 0 = d at *
 generalize y.getD 1 0 = f at *
 generalize y.getD 2 0 = id at *
 generalize y.getD 3 0 = a at *
 generalize y.getD 4 0 = q at *
 generalize y.getD 5 0 = e at *
 generalize y.getD 6 0 = k at *
 generalize y.getD 7 0 = r at *
 have wi : IntKind.i64.wrap ((i : Int) + 1) = ((i + 1 : Nat) : Int) := wrap_succ (by omega)
 refine Sx.if_true (by simp only [Bool.and_eq_true, Bool.or_eq_true, Sx.iLt_t, Sx.iLt_f, Sx.iLe_t, Sx.iLe_f, Sx.iEq_t, Sx.iEq_f, Sx.iBeq_t, Sx.iBeq_f, Sx.iBne_t, Sx.iBne_f, Nat.ble_eq, Nat.beq_eq, Sx.Cont.n, hbl, and_true]; omega) (Sx.if_true (by rw [hbl]; rfl) (Sx.if_true (by rw [hc, lL, hx2, hy.1, hy.2]; rfl) (Sx.if_both (fun hE => ?_) (fun hE => ?_))))
 ·have hE : dE O c no H0 H1 RT L d f id a q e k r = 0 := by rw [iBeq_t] at hE; exact hE
  have D := done_right hc hE
  have cA := cnd_dL (d := d) (f := f) (i := id) (a := a) (e := e) hx2 hy.1
  have hr : rightO O c no h0 h1 rt l = true := by rw [← hx4]; exact right_iff'.2 D.was
  generalize dH0 H0 L d f id a = K0 at *
  generalize dH1 H1 L d f id a = K1 at *
  generalize dRt RT d r = KT at *
  generalize dL L d f id a q e = M at *
  have N := D.now
  have n16 := N.len
  have b0 := N.bh0
  have b1 := N.bh1
  have c33 := fit_amt N.fit
  have tot := N.tot
  have co := fine_coins N.fine
  have lA : Nat.ble M.length 1000 = true := by rw [Nat.ble_eq]; omega
  have two := sumF_two (fine_fr N.fine)
  have w0 : (bif !(allW 0 1 [0]) then 0 else IntKind.i64.wrap (haveO K0 K1 0 + offM (IntKind.i64.wrap (1 - 0)) M)) = K0 + sumF 0 M := worth_0 N
  have w1 : (bif !(allW 0 1 [1]) then 0 else IntKind.i64.wrap (haveO K0 K1 1 + offM (IntKind.i64.wrap (1 - 1)) M)) = K1 + sumF 1 M := worth_1 N
  have pay := N.pay
  rw [← cost_eq N.brt n16] at pay
  simp only [w0, w1, totP_eq co (by omega : M.length ≤ 1000) b0 b1]
  rw [wrap_in (n := K0 + sumF 0 M + (K1 + sumF 1 M)) (by omega) (by omega)]
  have post : ∃ x : Nat × (Int × Int × Int) × List (List Int), x = (i + 1, (K0, K1, KT), M) := ⟨_, rfl⟩
  refine Sx.if_false (by rw [hr]; rfl) (Sx.if_true (by rw [hc, lA, cA]; rfl) (Sx.if_false (by rw [right_iff'.2 N]; rfl) (Sx.if_true lA (Sx.if_false (by rw [iBne_f]; omega) (Sx.if_true lA (Sx.if_true lA (Sx.if_false (by rw [iBne_f]; omega) (Sx.if_false (by rw [iBne_f]) ?_))))))))
  rcases fit_op hc N.fit with op | op
  ·have pay : costO KT M.length ≤ K0 := by rw [op] at pay; exact pay
   refine Sx.if_true (by rw [op]; rfl) (Sx.if_true (by rw [hc, lA]; rfl) (Sx.if_false (by rw [iLt_f]; omega) ⟨(i + 1, (K0, K1, KT), M), ⟨by show i + 1 ≤ m.length; omega, ⟨cA, by show M.length ≤ 1000; omega⟩, by show rightO O c no K0 K1 KT M = _; rw [hr, right_iff'.2 N]⟩, by show (m.length - (i + 1)).succ ≤ m.length - i; omega, ?_⟩))
   rw [wi]
   exact (by repeat' (first | exact trivial | exact rfl | refine And.intro ?_ ?_))
  ·have pay : costO KT M.length ≤ K1 := by rw [op] at pay; exact pay
   refine Sx.if_false (by rw [op]; rfl) (Sx.if_true (by rw [op]; rfl) (Sx.if_true (by rw [hc, lA]; rfl) (Sx.if_false (by rw [iLt_f]; omega) ⟨(i + 1, (K0, K1, KT), M), ⟨by show i + 1 ≤ m.length; omega, ⟨cA, by show M.length ≤ 1000; omega⟩, by show rightO O c no K0 K1 KT M = _; rw [hr, right_iff'.2 N]⟩, by show (m.length - (i + 1)).succ ≤ m.length - i; omega, ?_⟩)))
   rw [wi]
   exact (by repeat' (first | exact trivial | exact rfl | refine And.intro ?_ ?_))
 ·refine Sx.if_true (by rw [iBeq_f] at hE; rw [iBne_t]; exact hE) ⟨(i + 1, (H0, H1, RT), L), ⟨by show i + 1 ≤ m.length; omega, ⟨hx2, hx3⟩, hx4⟩, by show (m.length - (i + 1)).succ ≤ m.length - i; omega, ?_⟩
  rw [wi]
  exact (by repeat' (first | exact trivial | exact rfl | refine And.intro ?_ ?_))
theorem wpc_sholds (O : OO) (Y : OY) (c : Nat → Int) (no h0 h1 rt : Int) (l : List (List Int)) (m : List (List Int)) (F : FO O) (hy : Y = yO O) (hc : chB (chA c) = true) (g0 : Nat.ble l.length 9223372036854775807 = true) (g1 : cnd l = true) (g2 : actsB m = true) (g3 : Nat.ble m.length 9223372036854775807 = true) (ec : cz (chA c) = c) : wpcI Try.prog (spS23 O Y) Try.f5.ntmps [⟨Nat × (Int × Int × Int) × List (List Int), [2, 3, 4, 6, 7, 9, 10], [(400009, 41, .structs [.i64, .i64, .i64, .u64, .i64] [[]])], fun B x => [(11, .v (.int .i64 (x.1 : Int)))], fun B x => [(B, .ro (.structs [.i64, .i64, .i64, .u64, .i64] x.2.2)), (1088, .blk 39 [.v (.int .i64 no), .v (.int .i64 x.2.1.1), .v (.int .i64 x.2.1.2.1), .row B, .v (.int .i64 x.2.1.2.2)])], fun x => x.1 ≤ m.length ∧ (cnd x.2.2 = true ∧ x.2.2.length ≤ 1000) ∧ rightO O c no x.2.1.1 x.2.1.2.1 x.2.1.2.2 x.2.2 = rightO O c no h0 h1 rt l, fun x => m.length - x.1, 0⟩] (bodyOf Try.f5) 0 64 (envP (mks [.v, .agg [.v, .v, .v, .roS [.i64, .i64, .i64, .u64, .i64], .v], .roS [.i64, .i64, .i64, .i64, .u64, .i64, .u64, .i64]] [.v (.agg (chA c)), .node [.v (.int .i64 no), .v (.int .i64 h0), .v (.int .i64 h1), .structs l, .v (.int .i64 rt)], .structs m] 0).1 0) (mks [.v, .agg [.v, .v, .v, .roS [.i64, .i64, .i64, .u64, .i64], .v], .roS [.i64, .i64, .i64, .i64, .u64, .i64, .u64, .i64]] [.v (.agg (chA c)), .node [.v (.int .i64 no), .v (.int .i64 h0), .v (.int .i64 h1), .structs l, .v (.int .i64 rt)], .structs m] 0).2 (retP Try.prog Try.f5.results.toList 12 (⟨[.v (.bool true)], []⟩ : Post)) :=
 Eq.mpr (by kernel_rfl) (vc_sholds O Y c no h0 h1 rt l m F hy hc g0 g1 g2 g3 ec)
theorem ok_sholds (I : Sx.Interp) (O : OO) (hO : O = oo) (Y : OY) (hY : Y = yO O) : Sx.SpecOK I Try.prog 5 (pspec [.v, .agg [.v, .v, .v, .roS [.i64, .i64, .i64, .u64, .i64], .v], .roS [.i64, .i64, .i64, .i64, .u64, .i64, .u64, .i64]] false (g_sholds O Y)) := by
 refine spec_patI (spS23_ok I O hO Y hY) (by kernel_rfl) (fun ds => match ds with | [.v (.agg ch), .node [.v (.int .i64 no), .v (.int .i64 h0), .v (.int .i64 h1), .structs l, .v (.int .i64 rt)], .structs m] => [⟨Nat × (Int × Int × Int) × List (List Int), [2, 3, 4, 6, 7, 9, 10], [(400009, 41, .structs [.i64, .i64, .i64, .u64, .i64] [[]])], fun B x => [(11, .v (.int .i64 (x.1 : Int)))], fun B x => [(B, .ro (.structs [.i64, .i64, .i64, .u64, .i64] x.2.2)), (1088, .blk 39 [.v (.int .i64 no), .v (.int .i64 x.2.1.1), .v (.int .i64 x.2.1.2.1), .row B, .v (.int .i64 x.2.1.2.2)])], fun x => x.1 ≤ m.length ∧ (cnd x.2.2 = true ∧ x.2.2.length ≤ 1000) ∧ rightO O (cz ch) no x.2.1.1 x.2.1.2.1 x.2.1.2.2 x.2.2 = rightO O (cz ch) no h0 h1 rt l, fun x => m.length - x.1, 0⟩] | _ => []) Try.func5 (by kernel_rfl) (by kernel_rfl) rfl Try.ntmps5 (by decide) ?_ ?_
 ·intro ds p bs F h
  unfold g_sholds at h
  split at h
  ·simp only [Option.some.injEq, Prod.mk.injEq] at h
   obtain ⟨_, _, rfl⟩ := h
   kernel_rfl
  ·cases h
 ·intro ds bs F hl h
  unfold g_sholds at h
  split at h
  ·rename_i ch no h0 h1 l rt m
   simp only [Option.some.injEq, Prod.mk.injEq, Bool.and_eq_true] at h
   obtain ⟨⟨⟨⟨⟨hc, g0⟩, g1⟩, g2⟩, g3⟩, _, rfl⟩ := h
   obtain ⟨c, ec, rfl⟩ : ∃ c, cz ch = c ∧ ch = chA c := ⟨_, rfl, chB_eq hc⟩
   simp only [ec]
   exact wpc_sholds O Y c no h0 h1 rt l m (fo_oo O hO) hY hc g0 g1 g2 g3 (ec)
  ·cases h
end Go.Proofs.Ytgekiddgdjeaiaa
