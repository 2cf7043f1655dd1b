/- Sheet: the walk of SheetTurns (printed by genSh.py; VCs by VcTool). -/
import Derived.Test.YtgekiddgdjeaiaaShF
import Derived.Test.YtgekiddgdjeaiaaSlT
namespace Go.Proofs.Ytgekiddgdjeaiaa
open Go.RowKit Go.Lib Ckp Cfd Cpd Sx
set_option linter.unusedVariables false
set_option linter.unusedSimpArgs false
set_option maxRecDepth 1000000
theorem dummyD : True := trivial
def g_sturns (O : OO) (Y : OY) (ds : List Dt) : Option (Bool × List Bool × (List Bool → Post)) := match ds with
 | [.v (.agg ch), .node [.v (.int .i64 no), .v (.int .i64 h0), .v (.int .i64 h1), .structs l, .v (.int .i64 rt)], .v (.agg ⟨[.int .i64 d, .int .i64 f, .int .i64 i, .int .i64 a, .int .u64 q, .int .i64 e, .int .u64 k, .int .i64 r]⟩), .v (.agg ⟨[.int .i64 d', .int .i64 f', .int .i64 i', .int .i64 a', .int .u64 q', .int .i64 e', .int .u64 k', .int .i64 r']⟩)] => some ((chB ch) && (Nat.ble l.length 9223372036854775807) && (cnd l) && (inU q 18446744073709551616) && (inU k 18446744073709551616) && (inU q' 18446744073709551616) && (inU k' 18446744073709551616), [], fun _ => ⟨[.v (.bool true)], []⟩)
 | _ => none
set_option maxHeartbeats 4000000 in
theorem vc_sturns (O : OO) (Y : OY) (c : Nat → Int) (no h0 h1 rt : Int) (l : List (List Int)) (d f i a q e k r d' f' i' a' q' e' k' r' : Int) (F : FO O) (hy : Y = yO O) (hc : chB (chA c) = true) (g0 : Nat.ble l.length 9223372036854775807 = true) (g1 : cnd l = true) (g2 : inU q 18446744073709551616 = true) (g3 : inU k 18446744073709551616 = true) (g4 : inU q' 18446744073709551616 = true) (g5 : inU k' 18446744073709551616 = true) (ec : cz (chA c) = c) :
 If (!fewB h0 h1 rt l) (Value.bool true = Value.bool true ∧ True ∧ True) (If (iBeq (IntKind.i64.wrap (iOf (BitVec.ofInt 64 d &&& BitVec.ofInt 64 3).toNat)) 3) (Value.bool true =
  Value.bool true ∧ True ∧ True) (If (iBeq (IntKind.i64.wrap (iOf (BitVec.ofInt 64 d' &&& BitVec.ofInt 64 3).toNat)) 3) (Value.bool true = Value.bool true ∧ True ∧ True) (If (iBeq f
  f') (If (iBeq i i') (Value.bool true = Value.bool true ∧ True ∧ True) (If (chB (chA c) && l.length.ble 1000 && cnd l && inU q 18446744073709551616 && inU k 18446744073709551616) (If
  (iBeq (dE O (cz (chA c)) no h0 h1 rt l d f i a q e k r) 0) (If (chB (chA c) && l.length.ble 1000 && cnd l && inU q' 18446744073709551616 && inU k' 18446744073709551616) (If (iBeq
  (dE O (cz (chA c)) no h0 h1 rt l d' f' i' a' q' e' k' r') 0) (If (chB (chA c) && (dL l d f i a q e).length.ble 1000 && cnd (dL l d f i a q e) && inU q' 18446744073709551616 && inU
  k' 18446744073709551616) (If (iBeq (dE O (cz (chA c)) no (dH0 h0 l d f i a) (dH1 h1 l d f i a) (dRt rt d r) (dL l d f i a q e) d' f' i' a' q' e' k' r') 0) (If (chB (chA c) && (dL l
  d' f' i' a' q' e').length.ble 1000 && cnd (dL l d' f' i' a' q' e') && inU q 18446744073709551616 && inU k 18446744073709551616) (If (iBeq (dE O (cz (chA c)) no (dH0 h0 l d' f' i'
  a') (dH1 h1 l d' f' i' a') (dRt rt d' r') (dL l d' f' i' a' q' e') d f i a q e k r) 0) (If (iBne (IntKind.i64.wrap (iOf (BitVec.ofInt 64 d &&& BitVec.ofInt 64 3).toNat)) 0) (If
  (iBne (IntKind.i64.wrap (iOf (BitVec.ofInt 64 d' &&& BitVec.ofInt 64 3).toNat)) 0) (If ((dL (dL l d f i a q e) d' f' i' a' q' e').length.ble 1000 && cnd (dL (dL l d f i a q e) d' f'
  i' a' q' e') && (dL (dL l d' f' i' a' q' e') d f i a q e).length.ble 1000 && cnd (dL (dL l d' f' i' a' q' e') d f i a q e)) (Value.bool (sameB no (dH0 (dH0 h0 l d f i a) (dL l d f i
  a q e) d' f' i' a') (dH1 (dH1 h1 l d f i a) (dL l d f i a q e) d' f' i' a') (dRt (dRt rt d r) d' r') (dL (dL l d f i a q e) d' f' i' a' q' e') no (dH0 (dH0 h0 l d' f' i' a') (dL l
  d' f' i' a' q' e') d f i a) (dH1 (dH1 h1 l d' f' i' a') (dL l d' f' i' a' q' e') d f i a) (dRt (dRt rt d' r') d r) (dL (dL l d' f' i' a' q' e') d f i a q e)) = Value.bool true ∧
  True ∧ True) False) (If ((dL (dL l d f i a q e) d' f' i' a' q' e').length.ble 1000 && cnd (dL (dL l d f i a q e) d' f' i' a' q' e') && (dL (dL l d' f' i' a' q' e') d f i a q
  e).length.ble 1000 && cnd (dL (dL l d' f' i' a' q' e') d f i a q e)) (Value.bool (sameB no (dH0 (dH0 h0 l d f i a) (dL l d f i a q e) d' f' i' a') (dH1 (dH1 h1 l d f i a) (dL l d f
  i a q e) d' f' i' a') (dRt (dRt rt d r) d' r') (dL (dL l d f i a q e) d' f' i' a' q' e') no (dH0 (dH0 h0 l d' f' i' a') (dL l d' f' i' a' q' e') d f i a) (dH1 (dH1 h1 l d' f' i' a')
  (dL l d' f' i' a' q' e') d f i a) (dRt (dRt rt d' r') d r) (dL (dL l d' f' i' a' q' e') d f i a q e)) = Value.bool true ∧ True ∧ True) False)) (If ((dL (dL l d f i a q e) d' f' i'
  a' q' e').length.ble 1000 && cnd (dL (dL l d f i a q e) d' f' i' a' q' e') && (dL (dL l d' f' i' a' q' e') d f i a q e).length.ble 1000 && cnd (dL (dL l d' f' i' a' q' e') d f i a q
  e)) (Value.bool (sameB no (dH0 (dH0 h0 l d f i a) (dL l d f i a q e) d' f' i' a') (dH1 (dH1 h1 l d f i a) (dL l d f i a q e) d' f' i' a') (dRt (dRt rt d r) d' r') (dL (dL l d f i a
  q e) d' f' i' a' q' e') no (dH0 (dH0 h0 l d' f' i' a') (dL l d' f' i' a' q' e') d f i a) (dH1 (dH1 h1 l d' f' i' a') (dL l d' f' i' a' q' e') d f i a) (dRt (dRt rt d' r') d r) (dL
  (dL l d' f' i' a' q' e') d f i a q e)) = Value.bool true ∧ True ∧ True) False)) (If (iBne (IntKind.i64.wrap (iOf (BitVec.ofInt 64 d &&& BitVec.ofInt 64 3).toNat)) 0) (If (iBne
  (IntKind.i64.wrap (iOf (BitVec.ofInt 64 d' &&& BitVec.ofInt 64 3).toNat)) 0) (If (iBne (dE O (cz (chA c)) no (dH0 h0 l d' f' i' a') (dH1 h1 l d' f' i' a') (dRt rt d' r') (dL l d' f'
  i' a' q' e') d f i a q e k r) 0) (Value.bool false = Value.bool true ∧ True ∧ True) (If (iBne (dE O (cz (chA c)) no (dH0 h0 l d' f' i' a') (dH1 h1 l d' f' i' a') (dRt rt d' r') (dL
  l d' f' i' a' q' e') d f i a q e k r) 0) (Value.bool true = Value.bool true ∧ True ∧ True) (If ((dL (dL l d f i a q e) d' f' i' a' q' e').length.ble 1000 && cnd (dL (dL l d f i a q
  e) d' f' i' a' q' e') && Nat.ble 0 1000 && cnd []) (Value.bool (sameB no (dH0 (dH0 h0 l d f i a) (dL l d f i a q e) d' f' i' a') (dH1 (dH1 h1 l d f i a) (dL l d f i a q e) d' f' i'
  a') (dRt (dRt rt d r) d' r') (dL (dL l d f i a q e) d' f' i' a' q' e') 0 0 0 0 []) = Value.bool true ∧ True ∧ True) False))) (If (iBne (dE O (cz (chA c)) no (dH0 h0 l d' f' i' a')
  (dH1 h1 l d' f' i' a') (dRt rt d' r') (dL l d' f' i' a' q' e') d f i a q e k r) 0) (Value.bool true = Value.bool true ∧ True ∧ True) (If ((dL (dL l d f i a q e) d' f' i' a' q'
  e').length.ble 1000 && cnd (dL (dL l d f i a q e) d' f' i' a' q' e') && Nat.ble 0 1000 && cnd []) (Value.bool (sameB no (dH0 (dH0 h0 l d f i a) (dL l d f i a q e) d' f' i' a') (dH1
  (dH1 h1 l d f i a) (dL l d f i a q e) d' f' i' a') (dRt (dRt rt d r) d' r') (dL (dL l d f i a q e) d' f' i' a' q' e') 0 0 0 0 []) = Value.bool true ∧ True ∧ True) False))) (If (iBne
  (dE O (cz (chA c)) no (dH0 h0 l d' f' i' a') (dH1 h1 l d' f' i' a') (dRt rt d' r') (dL l d' f' i' a' q' e') d f i a q e k r) 0) (Value.bool true = Value.bool true ∧ True ∧ True) (If
  ((dL (dL l d f i a q e) d' f' i' a' q' e').length.ble 1000 && cnd (dL (dL l d f i a q e) d' f' i' a' q' e') && Nat.ble 0 1000 && cnd []) (Value.bool (sameB no (dH0 (dH0 h0 l d f i
  a) (dL l d f i a q e) d' f' i' a') (dH1 (dH1 h1 l d f i a) (dL l d f i a q e) d' f' i' a') (dRt (dRt rt d r) d' r') (dL (dL l d f i a q e) d' f' i' a' q' e') 0 0 0 0 []) =
  Value.bool true ∧ True ∧ True) False)))) False) (If (chB (chA c) && (dL l d' f' i' a' q' e').length.ble 1000 && cnd (dL l d' f' i' a' q' e') && inU q 18446744073709551616 && inU k
  18446744073709551616) (If (iBeq (dE O (cz (chA c)) no (dH0 h0 l d' f' i' a') (dH1 h1 l d' f' i' a') (dRt rt d' r') (dL l d' f' i' a' q' e') d f i a q e k r) 0) (If (iBne
  (IntKind.i64.wrap (iOf (BitVec.ofInt 64 d &&& BitVec.ofInt 64 3).toNat)) 0) (If (iBne (IntKind.i64.wrap (iOf (BitVec.ofInt 64 d' &&& BitVec.ofInt 64 3).toNat)) 0) (If (iBne (dE O
  (cz (chA c)) no (dH0 h0 l d f i a) (dH1 h1 l d f i a) (dRt rt d r) (dL l d f i a q e) d' f' i' a' q' e' k' r') 0) (Value.bool false = Value.bool true ∧ True ∧ True) (If (iBne (dE O
  (cz (chA c)) no (dH0 h0 l d f i a) (dH1 h1 l d f i a) (dRt rt d r) (dL l d f i a q e) d' f' i' a' q' e' k' r') 0) (Value.bool true = Value.bool true ∧ True ∧ True) (If (Nat.ble 0
  1000 && cnd [] && (dL (dL l d' f' i' a' q' e') d f i a q e).length.ble 1000 && cnd (dL (dL l d' f' i' a' q' e') d f i a q e)) (Value.bool (sameB 0 0 0 0 [] no (dH0 (dH0 h0 l d' f'
  i' a') (dL l d' f' i' a' q' e') d f i a) (dH1 (dH1 h1 l d' f' i' a') (dL l d' f' i' a' q' e') d f i a) (dRt (dRt rt d' r') d r) (dL (dL l d' f' i' a' q' e') d f i a q e)) =
  Value.bool true ∧ True ∧ True) False))) (If (iBne (dE O (cz (chA c)) no (dH0 h0 l d f i a) (dH1 h1 l d f i a) (dRt rt d r) (dL l d f i a q e) d' f' i' a' q' e' k' r') 0) (Value.bool
  true = Value.bool true ∧ True ∧ True) (If (Nat.ble 0 1000 && cnd [] && (dL (dL l d' f' i' a' q' e') d f i a q e).length.ble 1000 && cnd (dL (dL l d' f' i' a' q' e') d f i a q e))
  (Value.bool (sameB 0 0 0 0 [] no (dH0 (dH0 h0 l d' f' i' a') (dL l d' f' i' a' q' e') d f i a) (dH1 (dH1 h1 l d' f' i' a') (dL l d' f' i' a' q' e') d f i a) (dRt (dRt rt d' r') d r)
  (dL (dL l d' f' i' a' q' e') d f i a q e)) = Value.bool true ∧ True ∧ True) False))) (If (iBne (dE O (cz (chA c)) no (dH0 h0 l d f i a) (dH1 h1 l d f i a) (dRt rt d r) (dL l d f i a
  q e) d' f' i' a' q' e' k' r') 0) (Value.bool true = Value.bool true ∧ True ∧ True) (If (Nat.ble 0 1000 && cnd [] && (dL (dL l d' f' i' a' q' e') d f i a q e).length.ble 1000 && cnd
  (dL (dL l d' f' i' a' q' e') d f i a q e)) (Value.bool (sameB 0 0 0 0 [] no (dH0 (dH0 h0 l d' f' i' a') (dL l d' f' i' a' q' e') d f i a) (dH1 (dH1 h1 l d' f' i' a') (dL l d' f' i'
  a' q' e') d f i a) (dRt (dRt rt d' r') d r) (dL (dL l d' f' i' a' q' e') d f i a q e)) = Value.bool true ∧ True ∧ True) False))) (If (iBne (IntKind.i64.wrap (iOf (BitVec.ofInt 64 d
  &&& BitVec.ofInt 64 3).toNat)) 0) (If (iBne (IntKind.i64.wrap (iOf (BitVec.ofInt 64 d' &&& BitVec.ofInt 64 3).toNat)) 0) (If (iBne (dE O (cz (chA c)) no (dH0 h0 l d f i a) (dH1 h1 l
  d f i a) (dRt rt d r) (dL l d f i a q e) d' f' i' a' q' e' k' r') 0) (Value.bool false = Value.bool true ∧ True ∧ True) (If (iBne (dE O (cz (chA c)) no (dH0 h0 l d' f' i' a') (dH1
  h1 l d' f' i' a') (dRt rt d' r') (dL l d' f' i' a' q' e') d f i a q e k r) 0) (Value.bool false = Value.bool true ∧ True ∧ True) (If (iBne (dE O (cz (chA c)) no (dH0 h0 l d f i a)
  (dH1 h1 l d f i a) (dRt rt d r) (dL l d f i a q e) d' f' i' a' q' e' k' r') 0) (Value.bool true = Value.bool true ∧ True ∧ True) (If (iBne (dE O (cz (chA c)) no (dH0 h0 l d' f' i'
  a') (dH1 h1 l d' f' i' a') (dRt rt d' r') (dL l d' f' i' a' q' e') d f i a q e k r) 0) (Value.bool true = Value.bool true ∧ True ∧ True) (Value.bool (sameB 0 0 0 0 [] 0 0 0 0 []) =
  Value.bool true ∧ True ∧ True))))) (If (iBne (dE O (cz (chA c)) no (dH0 h0 l d f i a) (dH1 h1 l d f i a) (dRt rt d r) (dL l d f i a q e) d' f' i' a' q' e' k' r') 0) (Value.bool true
  = Value.bool true ∧ True ∧ True) (If (iBne (dE O (cz (chA c)) no (dH0 h0 l d' f' i' a') (dH1 h1 l d' f' i' a') (dRt rt d' r') (dL l d' f' i' a' q' e') d f i a q e k r) 0)
  (Value.bool true = Value.bool true ∧ True ∧ True) (Value.bool (sameB 0 0 0 0 [] 0 0 0 0 []) = Value.bool true ∧ True ∧ True)))) (If (iBne (dE O (cz (chA c)) no (dH0 h0 l d f i a)
  (dH1 h1 l d f i a) (dRt rt d r) (dL l d f i a q e) d' f' i' a' q' e' k' r') 0) (Value.bool true = Value.bool true ∧ True ∧ True) (If (iBne (dE O (cz (chA c)) no (dH0 h0 l d' f' i'
  a') (dH1 h1 l d' f' i' a') (dRt rt d' r') (dL l d' f' i' a' q' e') d f i a q e k r) 0) (Value.bool true = Value.bool true ∧ True ∧ True) (Value.bool (sameB 0 0 0 0 [] 0 0 0 0 []) =
  Value.bool true ∧ True ∧ True))))) False)) False) (If (iBne (dE O (cz (chA c)) no h0 h1 rt l d' f' i' a' q' e' k' r') 0) (Value.bool true = Value.bool true ∧ True ∧ True) (If (chB
  (chA c) && (dL l d f i a q e).length.ble 1000 && cnd (dL l d f i a q e) && inU q' 18446744073709551616 && inU k' 18446744073709551616) (If (iBeq (dE O (cz (chA c)) no (dH0 h0 l d f
  i a) (dH1 h1 l d f i a) (dRt rt d r) (dL l d f i a q e) d' f' i' a' q' e' k' r') 0) (If (chB (chA c) && Nat.ble 0 1000 && cnd [] && inU q 18446744073709551616 && inU k
  18446744073709551616) (If (iBeq (dE O (cz (chA c)) 0 0 0 0 [] d f i a q e k r) 0) (If (iBne (IntKind.i64.wrap (iOf (BitVec.ofInt 64 d &&& BitVec.ofInt 64 3).toNat)) 0) (If (iBne
  (IntKind.i64.wrap (iOf (BitVec.ofInt 64 d' &&& BitVec.ofInt 64 3).toNat)) 0) (If ((dL (dL l d f i a q e) d' f' i' a' q' e').length.ble 1000 && cnd (dL (dL l d f i a q e) d' f' i' a'
  q' e') && (dL [] d f i a q e).length.ble 1000 && cnd (dL [] d f i a q e)) (Value.bool (sameB no (dH0 (dH0 h0 l d f i a) (dL l d f i a q e) d' f' i' a') (dH1 (dH1 h1 l d f i a) (dL l
  d f i a q e) d' f' i' a') (dRt (dRt rt d r) d' r') (dL (dL l d f i a q e) d' f' i' a' q' e') 0 (dH0 0 [] d f i a) (dH1 0 [] d f i a) (dRt 0 d r) (dL [] d f i a q e)) = Value.bool
  true ∧ True ∧ True) False) (If ((dL (dL l d f i a q e) d' f' i' a' q' e').length.ble 1000 && cnd (dL (dL l d f i a q e) d' f' i' a' q' e') && (dL [] d f i a q e).length.ble 1000 &&
  cnd (dL [] d f i a q e)) (Value.bool (sameB no (dH0 (dH0 h0 l d f i a) (dL l d f i a q e) d' f' i' a') (dH1 (dH1 h1 l d f i a) (dL l d f i a q e) d' f' i' a') (dRt (dRt rt d r) d'
  r') (dL (dL l d f i a q e) d' f' i' a' q' e') 0 (dH0 0 [] d f i a) (dH1 0 [] d f i a) (dRt 0 d r) (dL [] d f i a q e)) = Value.bool true ∧ True ∧ True) False)) (If ((dL (dL l d f i
  a q e) d' f' i' a' q' e').length.ble 1000 && cnd (dL (dL l d f i a q e) d' f' i' a' q' e') && (dL [] d f i a q e).length.ble 1000 && cnd (dL [] d f i a q e)) (Value.bool (sameB no
  (dH0 (dH0 h0 l d f i a) (dL l d f i a q e) d' f' i' a') (dH1 (dH1 h1 l d f i a) (dL l d f i a q e) d' f' i' a') (dRt (dRt rt d r) d' r') (dL (dL l d f i a q e) d' f' i' a' q' e') 0
  (dH0 0 [] d f i a) (dH1 0 [] d f i a) (dRt 0 d r) (dL [] d f i a q e)) = Value.bool true ∧ True ∧ True) False)) (If (iBne (IntKind.i64.wrap (iOf (BitVec.ofInt 64 d &&& BitVec.ofInt
  64 3).toNat)) 0) (If (iBne (IntKind.i64.wrap (iOf (BitVec.ofInt 64 d' &&& BitVec.ofInt 64 3).toNat)) 0) (If (iBne (dE O (cz (chA c)) 0 0 0 0 [] d f i a q e k r) 0) (Value.bool false
  = Value.bool true ∧ True ∧ True) (If (iBne (dE O (cz (chA c)) 0 0 0 0 [] d f i a q e k r) 0) (Value.bool true = Value.bool true ∧ True ∧ True) (If ((dL (dL l d f i a q e) d' f' i'
  a' q' e').length.ble 1000 && cnd (dL (dL l d f i a q e) d' f' i' a' q' e') && Nat.ble 0 1000 && cnd []) (Value.bool (sameB no (dH0 (dH0 h0 l d f i a) (dL l d f i a q e) d' f' i' a')
  (dH1 (dH1 h1 l d f i a) (dL l d f i a q e) d' f' i' a') (dRt (dRt rt d r) d' r') (dL (dL l d f i a q e) d' f' i' a' q' e') 0 0 0 0 []) = Value.bool true ∧ True ∧ True) False))) (If
  (iBne (dE O (cz (chA c)) 0 0 0 0 [] d f i a q e k r) 0) (Value.bool true = Value.bool true ∧ True ∧ True) (If ((dL (dL l d f i a q e) d' f' i' a' q' e').length.ble 1000 && cnd (dL
  (dL l d f i a q e) d' f' i' a' q' e') && Nat.ble 0 1000 && cnd []) (Value.bool (sameB no (dH0 (dH0 h0 l d f i a) (dL l d f i a q e) d' f' i' a') (dH1 (dH1 h1 l d f i a) (dL l d f i
  a q e) d' f' i' a') (dRt (dRt rt d r) d' r') (dL (dL l d f i a q e) d' f' i' a' q' e') 0 0 0 0 []) = Value.bool true ∧ True ∧ True) False))) (If (iBne (dE O (cz (chA c)) 0 0 0 0 []
  d f i a q e k r) 0) (Value.bool true = Value.bool true ∧ True ∧ True) (If ((dL (dL l d f i a q e) d' f' i' a' q' e').length.ble 1000 && cnd (dL (dL l d f i a q e) d' f' i' a' q' e')
  && Nat.ble 0 1000 && cnd []) (Value.bool (sameB no (dH0 (dH0 h0 l d f i a) (dL l d f i a q e) d' f' i' a') (dH1 (dH1 h1 l d f i a) (dL l d f i a q e) d' f' i' a') (dRt (dRt rt d r)
  d' r') (dL (dL l d f i a q e) d' f' i' a' q' e') 0 0 0 0 []) = Value.bool true ∧ True ∧ True) False)))) False) (If (chB (chA c) && Nat.ble 0 1000 && cnd [] && inU q
  18446744073709551616 && inU k 18446744073709551616) (If (iBeq (dE O (cz (chA c)) 0 0 0 0 [] d f i a q e k r) 0) (If (iBne (IntKind.i64.wrap (iOf (BitVec.ofInt 64 d &&& BitVec.ofInt
  64 3).toNat)) 0) (If (iBne (IntKind.i64.wrap (iOf (BitVec.ofInt 64 d' &&& BitVec.ofInt 64 3).toNat)) 0) (If (iBne (dE O (cz (chA c)) no (dH0 h0 l d f i a) (dH1 h1 l d f i a) (dRt rt
  d r) (dL l d f i a q e) d' f' i' a' q' e' k' r') 0) (Value.bool false = Value.bool true ∧ True ∧ True) (If (iBne (dE O (cz (chA c)) no (dH0 h0 l d f i a) (dH1 h1 l d f i a) (dRt rt
  d r) (dL l d f i a q e) d' f' i' a' q' e' k' r') 0) (Value.bool true = Value.bool true ∧ True ∧ True) (If (Nat.ble 0 1000 && cnd [] && (dL [] d f i a q e).length.ble 1000 && cnd (dL
  [] d f i a q e)) (Value.bool (sameB 0 0 0 0 [] 0 (dH0 0 [] d f i a) (dH1 0 [] d f i a) (dRt 0 d r) (dL [] d f i a q e)) = Value.bool true ∧ True ∧ True) False))) (If (iBne (dE O (cz
  (chA c)) no (dH0 h0 l d f i a) (dH1 h1 l d f i a) (dRt rt d r) (dL l d f i a q e) d' f' i' a' q' e' k' r') 0) (Value.bool true = Value.bool true ∧ True ∧ True) (If (Nat.ble 0 1000
  && cnd [] && (dL [] d f i a q e).length.ble 1000 && cnd (dL [] d f i a q e)) (Value.bool (sameB 0 0 0 0 [] 0 (dH0 0 [] d f i a) (dH1 0 [] d f i a) (dRt 0 d r) (dL [] d f i a q e)) =
  Value.bool true ∧ True ∧ True) False))) (If (iBne (dE O (cz (chA c)) no (dH0 h0 l d f i a) (dH1 h1 l d f i a) (dRt rt d r) (dL l d f i a q e) d' f' i' a' q' e' k' r') 0) (Value.bool
  true = Value.bool true ∧ True ∧ True) (If (Nat.ble 0 1000 && cnd [] && (dL [] d f i a q e).length.ble 1000 && cnd (dL [] d f i a q e)) (Value.bool (sameB 0 0 0 0 [] 0 (dH0 0 [] d f
  i a) (dH1 0 [] d f i a) (dRt 0 d r) (dL [] d f i a q e)) = Value.bool true ∧ True ∧ True) False))) (If (iBne (IntKind.i64.wrap (iOf (BitVec.ofInt 64 d &&& BitVec.ofInt 64 3).toNat))
  0) (If (iBne (IntKind.i64.wrap (iOf (BitVec.ofInt 64 d' &&& BitVec.ofInt 64 3).toNat)) 0) (If (iBne (dE O (cz (chA c)) no (dH0 h0 l d f i a) (dH1 h1 l d f i a) (dRt rt d r) (dL l d
  f i a q e) d' f' i' a' q' e' k' r') 0) (Value.bool false = Value.bool true ∧ True ∧ True) (If (iBne (dE O (cz (chA c)) 0 0 0 0 [] d f i a q e k r) 0) (Value.bool false = Value.bool
  true ∧ True ∧ True) (If (iBne (dE O (cz (chA c)) no (dH0 h0 l d f i a) (dH1 h1 l d f i a) (dRt rt d r) (dL l d f i a q e) d' f' i' a' q' e' k' r') 0) (Value.bool true = Value.bool
  true ∧ True ∧ True) (If (iBne (dE O (cz (chA c)) 0 0 0 0 [] d f i a q e k r) 0) (Value.bool true = Value.bool true ∧ True ∧ True) (Value.bool (sameB 0 0 0 0 [] 0 0 0 0 []) =
  Value.bool true ∧ True ∧ True))))) (If (iBne (dE O (cz (chA c)) no (dH0 h0 l d f i a) (dH1 h1 l d f i a) (dRt rt d r) (dL l d f i a q e) d' f' i' a' q' e' k' r') 0) (Value.bool true
  = Value.bool true ∧ True ∧ True) (If (iBne (dE O (cz (chA c)) 0 0 0 0 [] d f i a q e k r) 0) (Value.bool true = Value.bool true ∧ True ∧ True) (Value.bool (sameB 0 0 0 0 [] 0 0 0 0
  []) = Value.bool true ∧ True ∧ True)))) (If (iBne (dE O (cz (chA c)) no (dH0 h0 l d f i a) (dH1 h1 l d f i a) (dRt rt d r) (dL l d f i a q e) d' f' i' a' q' e' k' r') 0) (Value.bool
  true = Value.bool true ∧ True ∧ True) (If (iBne (dE O (cz (chA c)) 0 0 0 0 [] d f i a q e k r) 0) (Value.bool true = Value.bool true ∧ True ∧ True) (Value.bool (sameB 0 0 0 0 [] 0 0
  0 0 []) = Value.bool true ∧ True ∧ True))))) False)) False))) False) (If (chB (chA c) && l.length.ble 1000 && cnd l && inU q' 18446744073709551616 && inU k' 18446744073709551616)
  (If (iBeq (dE O (cz (chA c)) no h0 h1 rt l d' f' i' a' q' e' k' r') 0) (If (iBne (dE O (cz (chA c)) no h0 h1 rt l d f i a q e k r) 0) (Value.bool true = Value.bool true ∧ True ∧
  True) (If (chB (chA c) && Nat.ble 0 1000 && cnd [] && inU q' 18446744073709551616 && inU k' 18446744073709551616) (If (iBeq (dE O (cz (chA c)) 0 0 0 0 [] d' f' i' a' q' e' k' r') 0)
  (If (chB (chA c) && (dL l d' f' i' a' q' e').length.ble 1000 && cnd (dL l d' f' i' a' q' e') && inU q 18446744073709551616 && inU k 18446744073709551616) (If (iBeq (dE O (cz (chA
  c)) no (dH0 h0 l d' f' i' a') (dH1 h1 l d' f' i' a') (dRt rt d' r') (dL l d' f' i' a' q' e') d f i a q e k r) 0) (If (iBne (IntKind.i64.wrap (iOf (BitVec.ofInt 64 d &&& BitVec.ofInt
  64 3).toNat)) 0) (If (iBne (IntKind.i64.wrap (iOf (BitVec.ofInt 64 d' &&& BitVec.ofInt 64 3).toNat)) 0) (If ((dL [] d' f' i' a' q' e').length.ble 1000 && cnd (dL [] d' f' i' a' q'
  e') && (dL (dL l d' f' i' a' q' e') d f i a q e).length.ble 1000 && cnd (dL (dL l d' f' i' a' q' e') d f i a q e)) (Value.bool (sameB 0 (dH0 0 [] d' f' i' a') (dH1 0 [] d' f' i' a')
  (dRt 0 d' r') (dL [] d' f' i' a' q' e') no (dH0 (dH0 h0 l d' f' i' a') (dL l d' f' i' a' q' e') d f i a) (dH1 (dH1 h1 l d' f' i' a') (dL l d' f' i' a' q' e') d f i a) (dRt (dRt rt
  d' r') d r) (dL (dL l d' f' i' a' q' e') d f i a q e)) = Value.bool true ∧ True ∧ True) False) (If ((dL [] d' f' i' a' q' e').length.ble 1000 && cnd (dL [] d' f' i' a' q' e') && (dL
  (dL l d' f' i' a' q' e') d f i a q e).length.ble 1000 && cnd (dL (dL l d' f' i' a' q' e') d f i a q e)) (Value.bool (sameB 0 (dH0 0 [] d' f' i' a') (dH1 0 [] d' f' i' a') (dRt 0 d'
  r') (dL [] d' f' i' a' q' e') no (dH0 (dH0 h0 l d' f' i' a') (dL l d' f' i' a' q' e') d f i a) (dH1 (dH1 h1 l d' f' i' a') (dL l d' f' i' a' q' e') d f i a) (dRt (dRt rt d' r') d r)
  (dL (dL l d' f' i' a' q' e') d f i a q e)) = Value.bool true ∧ True ∧ True) False)) (If ((dL [] d' f' i' a' q' e').length.ble 1000 && cnd (dL [] d' f' i' a' q' e') && (dL (dL l d'
  f' i' a' q' e') d f i a q e).length.ble 1000 && cnd (dL (dL l d' f' i' a' q' e') d f i a q e)) (Value.bool (sameB 0 (dH0 0 [] d' f' i' a') (dH1 0 [] d' f' i' a') (dRt 0 d' r') (dL
  [] d' f' i' a' q' e') no (dH0 (dH0 h0 l d' f' i' a') (dL l d' f' i' a' q' e') d f i a) (dH1 (dH1 h1 l d' f' i' a') (dL l d' f' i' a' q' e') d f i a) (dRt (dRt rt d' r') d r) (dL (dL
  l d' f' i' a' q' e') d f i a q e)) = Value.bool true ∧ True ∧ True) False)) (If (iBne (IntKind.i64.wrap (iOf (BitVec.ofInt 64 d &&& BitVec.ofInt 64 3).toNat)) 0) (If (iBne
  (IntKind.i64.wrap (iOf (BitVec.ofInt 64 d' &&& BitVec.ofInt 64 3).toNat)) 0) (If (iBne (dE O (cz (chA c)) no (dH0 h0 l d' f' i' a') (dH1 h1 l d' f' i' a') (dRt rt d' r') (dL l d' f'
  i' a' q' e') d f i a q e k r) 0) (Value.bool false = Value.bool true ∧ True ∧ True) (If (iBne (dE O (cz (chA c)) no (dH0 h0 l d' f' i' a') (dH1 h1 l d' f' i' a') (dRt rt d' r') (dL
  l d' f' i' a' q' e') d f i a q e k r) 0) (Value.bool true = Value.bool true ∧ True ∧ True) (If ((dL [] d' f' i' a' q' e').length.ble 1000 && cnd (dL [] d' f' i' a' q' e') && Nat.ble
  0 1000 && cnd []) (Value.bool (sameB 0 (dH0 0 [] d' f' i' a') (dH1 0 [] d' f' i' a') (dRt 0 d' r') (dL [] d' f' i' a' q' e') 0 0 0 0 []) = Value.bool true ∧ True ∧ True) False)))
  (If (iBne (dE O (cz (chA c)) no (dH0 h0 l d' f' i' a') (dH1 h1 l d' f' i' a') (dRt rt d' r') (dL l d' f' i' a' q' e') d f i a q e k r) 0) (Value.bool true = Value.bool true ∧ True ∧
  True) (If ((dL [] d' f' i' a' q' e').length.ble 1000 && cnd (dL [] d' f' i' a' q' e') && Nat.ble 0 1000 && cnd []) (Value.bool (sameB 0 (dH0 0 [] d' f' i' a') (dH1 0 [] d' f' i' a')
  (dRt 0 d' r') (dL [] d' f' i' a' q' e') 0 0 0 0 []) = Value.bool true ∧ True ∧ True) False))) (If (iBne (dE O (cz (chA c)) no (dH0 h0 l d' f' i' a') (dH1 h1 l d' f' i' a') (dRt rt
  d' r') (dL l d' f' i' a' q' e') d f i a q e k r) 0) (Value.bool true = Value.bool true ∧ True ∧ True) (If ((dL [] d' f' i' a' q' e').length.ble 1000 && cnd (dL [] d' f' i' a' q' e')
  && Nat.ble 0 1000 && cnd []) (Value.bool (sameB 0 (dH0 0 [] d' f' i' a') (dH1 0 [] d' f' i' a') (dRt 0 d' r') (dL [] d' f' i' a' q' e') 0 0 0 0 []) = Value.bool true ∧ True ∧ True)
  False)))) False) (If (chB (chA c) && (dL l d' f' i' a' q' e').length.ble 1000 && cnd (dL l d' f' i' a' q' e') && inU q 18446744073709551616 && inU k 18446744073709551616) (If (iBeq
  (dE O (cz (chA c)) no (dH0 h0 l d' f' i' a') (dH1 h1 l d' f' i' a') (dRt rt d' r') (dL l d' f' i' a' q' e') d f i a q e k r) 0) (If (iBne (IntKind.i64.wrap (iOf (BitVec.ofInt 64 d
  &&& BitVec.ofInt 64 3).toNat)) 0) (If (iBne (IntKind.i64.wrap (iOf (BitVec.ofInt 64 d' &&& BitVec.ofInt 64 3).toNat)) 0) (If (iBne (dE O (cz (chA c)) 0 0 0 0 [] d' f' i' a' q' e' k'
  r') 0) (Value.bool false = Value.bool true ∧ True ∧ True) (If (iBne (dE O (cz (chA c)) 0 0 0 0 [] d' f' i' a' q' e' k' r') 0) (Value.bool true = Value.bool true ∧ True ∧ True) (If
  (Nat.ble 0 1000 && cnd [] && (dL (dL l d' f' i' a' q' e') d f i a q e).length.ble 1000 && cnd (dL (dL l d' f' i' a' q' e') d f i a q e)) (Value.bool (sameB 0 0 0 0 [] no (dH0 (dH0
  h0 l d' f' i' a') (dL l d' f' i' a' q' e') d f i a) (dH1 (dH1 h1 l d' f' i' a') (dL l d' f' i' a' q' e') d f i a) (dRt (dRt rt d' r') d r) (dL (dL l d' f' i' a' q' e') d f i a q e))
  = Value.bool true ∧ True ∧ True) False))) (If (iBne (dE O (cz (chA c)) 0 0 0 0 [] d' f' i' a' q' e' k' r') 0) (Value.bool true = Value.bool true ∧ True ∧ True) (If (Nat.ble 0 1000
  && cnd [] && (dL (dL l d' f' i' a' q' e') d f i a q e).length.ble 1000 && cnd (dL (dL l d' f' i' a' q' e') d f i a q e)) (Value.bool (sameB 0 0 0 0 [] no (dH0 (dH0 h0 l d' f' i' a')
  (dL l d' f' i' a' q' e') d f i a) (dH1 (dH1 h1 l d' f' i' a') (dL l d' f' i' a' q' e') d f i a) (dRt (dRt rt d' r') d r) (dL (dL l d' f' i' a' q' e') d f i a q e)) = Value.bool true
  ∧ True ∧ True) False))) (If (iBne (dE O (cz (chA c)) 0 0 0 0 [] d' f' i' a' q' e' k' r') 0) (Value.bool true = Value.bool true ∧ True ∧ True) (If (Nat.ble 0 1000 && cnd [] && (dL
  (dL l d' f' i' a' q' e') d f i a q e).length.ble 1000 && cnd (dL (dL l d' f' i' a' q' e') d f i a q e)) (Value.bool (sameB 0 0 0 0 [] no (dH0 (dH0 h0 l d' f' i' a') (dL l d' f' i'
  a' q' e') d f i a) (dH1 (dH1 h1 l d' f' i' a') (dL l d' f' i' a' q' e') d f i a) (dRt (dRt rt d' r') d r) (dL (dL l d' f' i' a' q' e') d f i a q e)) = Value.bool true ∧ True ∧ True)
  False))) (If (iBne (IntKind.i64.wrap (iOf (BitVec.ofInt 64 d &&& BitVec.ofInt 64 3).toNat)) 0) (If (iBne (IntKind.i64.wrap (iOf (BitVec.ofInt 64 d' &&& BitVec.ofInt 64 3).toNat)) 0)
  (If (iBne (dE O (cz (chA c)) 0 0 0 0 [] d' f' i' a' q' e' k' r') 0) (Value.bool false = Value.bool true ∧ True ∧ True) (If (iBne (dE O (cz (chA c)) no (dH0 h0 l d' f' i' a') (dH1 h1
  l d' f' i' a') (dRt rt d' r') (dL l d' f' i' a' q' e') d f i a q e k r) 0) (Value.bool false = Value.bool true ∧ True ∧ True) (If (iBne (dE O (cz (chA c)) 0 0 0 0 [] d' f' i' a' q'
  e' k' r') 0) (Value.bool true = Value.bool true ∧ True ∧ True) (If (iBne (dE O (cz (chA c)) no (dH0 h0 l d' f' i' a') (dH1 h1 l d' f' i' a') (dRt rt d' r') (dL l d' f' i' a' q' e')
  d f i a q e k r) 0) (Value.bool true = Value.bool true ∧ True ∧ True) (Value.bool (sameB 0 0 0 0 [] 0 0 0 0 []) = Value.bool true ∧ True ∧ True))))) (If (iBne (dE O (cz (chA c)) 0 0
  0 0 [] d' f' i' a' q' e' k' r') 0) (Value.bool true = Value.bool true ∧ True ∧ True) (If (iBne (dE O (cz (chA c)) no (dH0 h0 l d' f' i' a') (dH1 h1 l d' f' i' a') (dRt rt d' r') (dL
  l d' f' i' a' q' e') d f i a q e k r) 0) (Value.bool true = Value.bool true ∧ True ∧ True) (Value.bool (sameB 0 0 0 0 [] 0 0 0 0 []) = Value.bool true ∧ True ∧ True)))) (If (iBne
  (dE O (cz (chA c)) 0 0 0 0 [] d' f' i' a' q' e' k' r') 0) (Value.bool true = Value.bool true ∧ True ∧ True) (If (iBne (dE O (cz (chA c)) no (dH0 h0 l d' f' i' a') (dH1 h1 l d' f' i'
  a') (dRt rt d' r') (dL l d' f' i' a' q' e') d f i a q e k r) 0) (Value.bool true = Value.bool true ∧ True ∧ True) (Value.bool (sameB 0 0 0 0 [] 0 0 0 0 []) = Value.bool true ∧ True
  ∧ True))))) False)) False)) (If (iBne (dE O (cz (chA c)) no h0 h1 rt l d f i a q e k r) 0) (Value.bool true = Value.bool true ∧ True ∧ True) (If (iBne (dE O (cz (chA c)) no h0 h1 rt
  l d' f' i' a' q' e' k' r') 0) (Value.bool true = Value.bool true ∧ True ∧ True) (If (chB (chA c) && Nat.ble 0 1000 && cnd [] && inU q' 18446744073709551616 && inU k'
  18446744073709551616) (If (iBeq (dE O (cz (chA c)) 0 0 0 0 [] d' f' i' a' q' e' k' r') 0) (If (chB (chA c) && Nat.ble 0 1000 && cnd [] && inU q 18446744073709551616 && inU k
  18446744073709551616) (If (iBeq (dE O (cz (chA c)) 0 0 0 0 [] d f i a q e k r) 0) (If (iBne (IntKind.i64.wrap (iOf (BitVec.ofInt 64 d &&& BitVec.ofInt 64 3).toNat)) 0) (If (iBne
  (IntKind.i64.wrap (iOf (BitVec.ofInt 64 d' &&& BitVec.ofInt 64 3).toNat)) 0) (If ((dL [] d' f' i' a' q' e').length.ble 1000 && cnd (dL [] d' f' i' a' q' e') && (dL [] d f i a q
  e).length.ble 1000 && cnd (dL [] d f i a q e)) (Value.bool (sameB 0 (dH0 0 [] d' f' i' a') (dH1 0 [] d' f' i' a') (dRt 0 d' r') (dL [] d' f' i' a' q' e') 0 (dH0 0 [] d f i a) (dH1 0
  [] d f i a) (dRt 0 d r) (dL [] d f i a q e)) = Value.bool true ∧ True ∧ True) False) (If ((dL [] d' f' i' a' q' e').length.ble 1000 && cnd (dL [] d' f' i' a' q' e') && (dL [] d f i
  a q e).length.ble 1000 && cnd (dL [] d f i a q e)) (Value.bool (sameB 0 (dH0 0 [] d' f' i' a') (dH1 0 [] d' f' i' a') (dRt 0 d' r') (dL [] d' f' i' a' q' e') 0 (dH0 0 [] d f i a)
  (dH1 0 [] d f i a) (dRt 0 d r) (dL [] d f i a q e)) = Value.bool true ∧ True ∧ True) False)) (If ((dL [] d' f' i' a' q' e').length.ble 1000 && cnd (dL [] d' f' i' a' q' e') && (dL
  [] d f i a q e).length.ble 1000 && cnd (dL [] d f i a q e)) (Value.bool (sameB 0 (dH0 0 [] d' f' i' a') (dH1 0 [] d' f' i' a') (dRt 0 d' r') (dL [] d' f' i' a' q' e') 0 (dH0 0 [] d
  f i a) (dH1 0 [] d f i a) (dRt 0 d r) (dL [] d f i a q e)) = Value.bool true ∧ True ∧ True) False)) (If (iBne (IntKind.i64.wrap (iOf (BitVec.ofInt 64 d &&& BitVec.ofInt 64
  3).toNat)) 0) (If (iBne (IntKind.i64.wrap (iOf (BitVec.ofInt 64 d' &&& BitVec.ofInt 64 3).toNat)) 0) (If (iBne (dE O (cz (chA c)) 0 0 0 0 [] d f i a q e k r) 0) (Value.bool false =
  Value.bool true ∧ True ∧ True) (If (iBne (dE O (cz (chA c)) 0 0 0 0 [] d f i a q e k r) 0) (Value.bool true = Value.bool true ∧ True ∧ True) (If ((dL [] d' f' i' a' q'
  e').length.ble 1000 && cnd (dL [] d' f' i' a' q' e') && Nat.ble 0 1000 && cnd []) (Value.bool (sameB 0 (dH0 0 [] d' f' i' a') (dH1 0 [] d' f' i' a') (dRt 0 d' r') (dL [] d' f' i' a'
  q' e') 0 0 0 0 []) = Value.bool true ∧ True ∧ True) False))) (If (iBne (dE O (cz (chA c)) 0 0 0 0 [] d f i a q e k r) 0) (Value.bool true = Value.bool true ∧ True ∧ True) (If ((dL
  [] d' f' i' a' q' e').length.ble 1000 && cnd (dL [] d' f' i' a' q' e') && Nat.ble 0 1000 && cnd []) (Value.bool (sameB 0 (dH0 0 [] d' f' i' a') (dH1 0 [] d' f' i' a') (dRt 0 d' r')
  (dL [] d' f' i' a' q' e') 0 0 0 0 []) = Value.bool true ∧ True ∧ True) False))) (If (iBne (dE O (cz (chA c)) 0 0 0 0 [] d f i a q e k r) 0) (Value.bool true = Value.bool true ∧ True
  ∧ True) (If ((dL [] d' f' i' a' q' e').length.ble 1000 && cnd (dL [] d' f' i' a' q' e') && Nat.ble 0 1000 && cnd []) (Value.bool (sameB 0 (dH0 0 [] d' f' i' a') (dH1 0 [] d' f' i'
  a') (dRt 0 d' r') (dL [] d' f' i' a' q' e') 0 0 0 0 []) = Value.bool true ∧ True ∧ True) False)))) False) (If (chB (chA c) && Nat.ble 0 1000 && cnd [] && inU q 18446744073709551616
  && inU k 18446744073709551616) (If (iBeq (dE O (cz (chA c)) 0 0 0 0 [] d f i a q e k r) 0) (If (iBne (IntKind.i64.wrap (iOf (BitVec.ofInt 64 d &&& BitVec.ofInt 64 3).toNat)) 0) (If
  (iBne (IntKind.i64.wrap (iOf (BitVec.ofInt 64 d' &&& BitVec.ofInt 64 3).toNat)) 0) (If (iBne (dE O (cz (chA c)) 0 0 0 0 [] d' f' i' a' q' e' k' r') 0) (Value.bool false = Value.bool
  true ∧ True ∧ True) (If (iBne (dE O (cz (chA c)) 0 0 0 0 [] d' f' i' a' q' e' k' r') 0) (Value.bool true = Value.bool true ∧ True ∧ True) (If (Nat.ble 0 1000 && cnd [] && (dL [] d f
  i a q e).length.ble 1000 && cnd (dL [] d f i a q e)) (Value.bool (sameB 0 0 0 0 [] 0 (dH0 0 [] d f i a) (dH1 0 [] d f i a) (dRt 0 d r) (dL [] d f i a q e)) = Value.bool true ∧ True
  ∧ True) False))) (If (iBne (dE O (cz (chA c)) 0 0 0 0 [] d' f' i' a' q' e' k' r') 0) (Value.bool true = Value.bool true ∧ True ∧ True) (If (Nat.ble 0 1000 && cnd [] && (dL [] d f i
  a q e).length.ble 1000 && cnd (dL [] d f i a q e)) (Value.bool (sameB 0 0 0 0 [] 0 (dH0 0 [] d f i a) (dH1 0 [] d f i a) (dRt 0 d r) (dL [] d f i a q e)) = Value.bool true ∧ True ∧
  True) False))) (If (iBne (dE O (cz (chA c)) 0 0 0 0 [] d' f' i' a' q' e' k' r') 0) (Value.bool true = Value.bool true ∧ True ∧ True) (If (Nat.ble 0 1000 && cnd [] && (dL [] d f i a
  q e).length.ble 1000 && cnd (dL [] d f i a q e)) (Value.bool (sameB 0 0 0 0 [] 0 (dH0 0 [] d f i a) (dH1 0 [] d f i a) (dRt 0 d r) (dL [] d f i a q e)) = Value.bool true ∧ True ∧
  True) False))) (If (iBne (IntKind.i64.wrap (iOf (BitVec.ofInt 64 d &&& BitVec.ofInt 64 3).toNat)) 0) (If (iBne (IntKind.i64.wrap (iOf (BitVec.ofInt 64 d' &&& BitVec.ofInt 64
  3).toNat)) 0) (If (iBne (dE O (cz (chA c)) 0 0 0 0 [] d' f' i' a' q' e' k' r') 0) (Value.bool false = Value.bool true ∧ True ∧ True) (If (iBne (dE O (cz (chA c)) 0 0 0 0 [] d f i a
  q e k r) 0) (Value.bool false = Value.bool true ∧ True ∧ True) (If (iBne (dE O (cz (chA c)) 0 0 0 0 [] d' f' i' a' q' e' k' r') 0) (Value.bool true = Value.bool true ∧ True ∧ True)
  (If (iBne (dE O (cz (chA c)) 0 0 0 0 [] d f i a q e k r) 0) (Value.bool true = Value.bool true ∧ True ∧ True) (Value.bool (sameB 0 0 0 0 [] 0 0 0 0 []) = Value.bool true ∧ True ∧
  True))))) (If (iBne (dE O (cz (chA c)) 0 0 0 0 [] d' f' i' a' q' e' k' r') 0) (Value.bool true = Value.bool true ∧ True ∧ True) (If (iBne (dE O (cz (chA c)) 0 0 0 0 [] d f i a q e k
  r) 0) (Value.bool true = Value.bool true ∧ True ∧ True) (Value.bool (sameB 0 0 0 0 [] 0 0 0 0 []) = Value.bool true ∧ True ∧ True)))) (If (iBne (dE O (cz (chA c)) 0 0 0 0 [] d' f'
  i' a' q' e' k' r') 0) (Value.bool true = Value.bool true ∧ True ∧ True) (If (iBne (dE O (cz (chA c)) 0 0 0 0 [] d f i a q e k r) 0) (Value.bool true = Value.bool true ∧ True ∧ True)
  (Value.bool (sameB 0 0 0 0 [] 0 0 0 0 []) = Value.bool true ∧ True ∧ True))))) False)) False)))) False)) False)) (If (chB (chA c) && l.length.ble 1000 && cnd l && inU q
  18446744073709551616 && inU k 18446744073709551616) (If (iBeq (dE O (cz (chA c)) no h0 h1 rt l d f i a q e k r) 0) (If (chB (chA c) && l.length.ble 1000 && cnd l && inU q'
  18446744073709551616 && inU k' 18446744073709551616) (If (iBeq (dE O (cz (chA c)) no h0 h1 rt l d' f' i' a' q' e' k' r') 0) (If (chB (chA c) && (dL l d f i a q e).length.ble 1000 &&
  cnd (dL l d f i a q e) && inU q' 18446744073709551616 && inU k' 18446744073709551616) (If (iBeq (dE O (cz (chA c)) no (dH0 h0 l d f i a) (dH1 h1 l d f i a) (dRt rt d r) (dL l d f i
  a q e) d' f' i' a' q' e' k' r') 0) (If (chB (chA c) && (dL l d' f' i' a' q' e').length.ble 1000 && cnd (dL l d' f' i' a' q' e') && inU q 18446744073709551616 && inU k
  18446744073709551616) (If (iBeq (dE O (cz (chA c)) no (dH0 h0 l d' f' i' a') (dH1 h1 l d' f' i' a') (dRt rt d' r') (dL l d' f' i' a' q' e') d f i a q e k r) 0) (If (iBne
  (IntKind.i64.wrap (iOf (BitVec.ofInt 64 d &&& BitVec.ofInt 64 3).toNat)) 0) (If (iBne (IntKind.i64.wrap (iOf (BitVec.ofInt 64 d' &&& BitVec.ofInt 64 3).toNat)) 0) (If ((dL (dL l d f
  i a q e) d' f' i' a' q' e').length.ble 1000 && cnd (dL (dL l d f i a q e) d' f' i' a' q' e') && (dL (dL l d' f' i' a' q' e') d f i a q e).length.ble 1000 && cnd (dL (dL l d' f' i'
  a' q' e') d f i a q e)) (Value.bool (sameB no (dH0 (dH0 h0 l d f i a) (dL l d f i a q e) d' f' i' a') (dH1 (dH1 h1 l d f i a) (dL l d f i a q e) d' f' i' a') (dRt (dRt rt d r) d'
  r') (dL (dL l d f i a q e) d' f' i' a' q' e') no (dH0 (dH0 h0 l d' f' i' a') (dL l d' f' i' a' q' e') d f i a) (dH1 (dH1 h1 l d' f' i' a') (dL l d' f' i' a' q' e') d f i a) (dRt
  (dRt rt d' r') d r) (dL (dL l d' f' i' a' q' e') d f i a q e)) = Value.bool true ∧ True ∧ True) False) (If ((dL (dL l d f i a q e) d' f' i' a' q' e').length.ble 1000 && cnd (dL (dL
  l d f i a q e) d' f' i' a' q' e') && (dL (dL l d' f' i' a' q' e') d f i a q e).length.ble 1000 && cnd (dL (dL l d' f' i' a' q' e') d f i a q e)) (Value.bool (sameB no (dH0 (dH0 h0 l
  d f i a) (dL l d f i a q e) d' f' i' a') (dH1 (dH1 h1 l d f i a) (dL l d f i a q e) d' f' i' a') (dRt (dRt rt d r) d' r') (dL (dL l d f i a q e) d' f' i' a' q' e') no (dH0 (dH0 h0 l
  d' f' i' a') (dL l d' f' i' a' q' e') d f i a) (dH1 (dH1 h1 l d' f' i' a') (dL l d' f' i' a' q' e') d f i a) (dRt (dRt rt d' r') d r) (dL (dL l d' f' i' a' q' e') d f i a q e)) =
  Value.bool true ∧ True ∧ True) False)) (If ((dL (dL l d f i a q e) d' f' i' a' q' e').length.ble 1000 && cnd (dL (dL l d f i a q e) d' f' i' a' q' e') && (dL (dL l d' f' i' a' q'
  e') d f i a q e).length.ble 1000 && cnd (dL (dL l d' f' i' a' q' e') d f i a q e)) (Value.bool (sameB no (dH0 (dH0 h0 l d f i a) (dL l d f i a q e) d' f' i' a') (dH1 (dH1 h1 l d f i
  a) (dL l d f i a q e) d' f' i' a') (dRt (dRt rt d r) d' r') (dL (dL l d f i a q e) d' f' i' a' q' e') no (dH0 (dH0 h0 l d' f' i' a') (dL l d' f' i' a' q' e') d f i a) (dH1 (dH1 h1 l
  d' f' i' a') (dL l d' f' i' a' q' e') d f i a) (dRt (dRt rt d' r') d r) (dL (dL l d' f' i' a' q' e') d f i a q e)) = Value.bool true ∧ True ∧ True) False)) (If (iBne
  (IntKind.i64.wrap (iOf (BitVec.ofInt 64 d &&& BitVec.ofInt 64 3).toNat)) 0) (If (iBne (IntKind.i64.wrap (iOf (BitVec.ofInt 64 d' &&& BitVec.ofInt 64 3).toNat)) 0) (If (iBne (dE O
  (cz (chA c)) no (dH0 h0 l d' f' i' a') (dH1 h1 l d' f' i' a') (dRt rt d' r') (dL l d' f' i' a' q' e') d f i a q e k r) 0) (Value.bool false = Value.bool true ∧ True ∧ True) (If
  (iBne (dE O (cz (chA c)) no (dH0 h0 l d' f' i' a') (dH1 h1 l d' f' i' a') (dRt rt d' r') (dL l d' f' i' a' q' e') d f i a q e k r) 0) (Value.bool true = Value.bool true ∧ True ∧
  True) (If ((dL (dL l d f i a q e) d' f' i' a' q' e').length.ble 1000 && cnd (dL (dL l d f i a q e) d' f' i' a' q' e') && Nat.ble 0 1000 && cnd []) (Value.bool (sameB no (dH0 (dH0 h0
  l d f i a) (dL l d f i a q e) d' f' i' a') (dH1 (dH1 h1 l d f i a) (dL l d f i a q e) d' f' i' a') (dRt (dRt rt d r) d' r') (dL (dL l d f i a q e) d' f' i' a' q' e') 0 0 0 0 []) =
  Value.bool true ∧ True ∧ True) False))) (If (iBne (dE O (cz (chA c)) no (dH0 h0 l d' f' i' a') (dH1 h1 l d' f' i' a') (dRt rt d' r') (dL l d' f' i' a' q' e') d f i a q e k r) 0)
  (Value.bool true = Value.bool true ∧ True ∧ True) (If ((dL (dL l d f i a q e) d' f' i' a' q' e').length.ble 1000 && cnd (dL (dL l d f i a q e) d' f' i' a' q' e') && Nat.ble 0 1000
  && cnd []) (Value.bool (sameB no (dH0 (dH0 h0 l d f i a) (dL l d f i a q e) d' f' i' a') (dH1 (dH1 h1 l d f i a) (dL l d f i a q e) d' f' i' a') (dRt (dRt rt d r) d' r') (dL (dL l d
  f i a q e) d' f' i' a' q' e') 0 0 0 0 []) = Value.bool true ∧ True ∧ True) False))) (If (iBne (dE O (cz (chA c)) no (dH0 h0 l d' f' i' a') (dH1 h1 l d' f' i' a') (dRt rt d' r') (dL
  l d' f' i' a' q' e') d f i a q e k r) 0) (Value.bool true = Value.bool true ∧ True ∧ True) (If ((dL (dL l d f i a q e) d' f' i' a' q' e').length.ble 1000 && cnd (dL (dL l d f i a q
  e) d' f' i' a' q' e') && Nat.ble 0 1000 && cnd []) (Value.bool (sameB no (dH0 (dH0 h0 l d f i a) (dL l d f i a q e) d' f' i' a') (dH1 (dH1 h1 l d f i a) (dL l d f i a q e) d' f' i'
  a') (dRt (dRt rt d r) d' r') (dL (dL l d f i a q e) d' f' i' a' q' e') 0 0 0 0 []) = Value.bool true ∧ True ∧ True) False)))) False) (If (chB (chA c) && (dL l d' f' i' a' q'
  e').length.ble 1000 && cnd (dL l d' f' i' a' q' e') && inU q 18446744073709551616 && inU k 18446744073709551616) (If (iBeq (dE O (cz (chA c)) no (dH0 h0 l d' f' i' a') (dH1 h1 l d'
  f' i' a') (dRt rt d' r') (dL l d' f' i' a' q' e') d f i a q e k r) 0) (If (iBne (IntKind.i64.wrap (iOf (BitVec.ofInt 64 d &&& BitVec.ofInt 64 3).toNat)) 0) (If (iBne
  (IntKind.i64.wrap (iOf (BitVec.ofInt 64 d' &&& BitVec.ofInt 64 3).toNat)) 0) (If (iBne (dE O (cz (chA c)) no (dH0 h0 l d f i a) (dH1 h1 l d f i a) (dRt rt d r) (dL l d f i a q e) d'
  f' i' a' q' e' k' r') 0) (Value.bool false = Value.bool true ∧ True ∧ True) (If (iBne (dE O (cz (chA c)) no (dH0 h0 l d f i a) (dH1 h1 l d f i a) (dRt rt d r) (dL l d f i a q e) d'
  f' i' a' q' e' k' r') 0) (Value.bool true = Value.bool true ∧ True ∧ True) (If (Nat.ble 0 1000 && cnd [] && (dL (dL l d' f' i' a' q' e') d f i a q e).length.ble 1000 && cnd (dL (dL
  l d' f' i' a' q' e') d f i a q e)) (Value.bool (sameB 0 0 0 0 [] no (dH0 (dH0 h0 l d' f' i' a') (dL l d' f' i' a' q' e') d f i a) (dH1 (dH1 h1 l d' f' i' a') (dL l d' f' i' a' q'
  e') d f i a) (dRt (dRt rt d' r') d r) (dL (dL l d' f' i' a' q' e') d f i a q e)) = Value.bool true ∧ True ∧ True) False))) (If (iBne (dE O (cz (chA c)) no (dH0 h0 l d f i a) (dH1 h1
  l d f i a) (dRt rt d r) (dL l d f i a q e) d' f' i' a' q' e' k' r') 0) (Value.bool true = Value.bool true ∧ True ∧ True) (If (Nat.ble 0 1000 && cnd [] && (dL (dL l d' f' i' a' q'
  e') d f i a q e).length.ble 1000 && cnd (dL (dL l d' f' i' a' q' e') d f i a q e)) (Value.bool (sameB 0 0 0 0 [] no (dH0 (dH0 h0 l d' f' i' a') (dL l d' f' i' a' q' e') d f i a)
  (dH1 (dH1 h1 l d' f' i' a') (dL l d' f' i' a' q' e') d f i a) (dRt (dRt rt d' r') d r) (dL (dL l d' f' i' a' q' e') d f i a q e)) = Value.bool true ∧ True ∧ True) False))) (If (iBne
  (dE O (cz (chA c)) no (dH0 h0 l d f i a) (dH1 h1 l d f i a) (dRt rt d r) (dL l d f i a q e) d' f' i' a' q' e' k' r') 0) (Value.bool true = Value.bool true ∧ True ∧ True) (If
  (Nat.ble 0 1000 && cnd [] && (dL (dL l d' f' i' a' q' e') d f i a q e).length.ble 1000 && cnd (dL (dL l d' f' i' a' q' e') d f i a q e)) (Value.bool (sameB 0 0 0 0 [] no (dH0 (dH0
  h0 l d' f' i' a') (dL l d' f' i' a' q' e') d f i a) (dH1 (dH1 h1 l d' f' i' a') (dL l d' f' i' a' q' e') d f i a) (dRt (dRt rt d' r') d r) (dL (dL l d' f' i' a' q' e') d f i a q e))
  = Value.bool true ∧ True ∧ True) False))) (If (iBne (IntKind.i64.wrap (iOf (BitVec.ofInt 64 d &&& BitVec.ofInt 64 3).toNat)) 0) (If (iBne (IntKind.i64.wrap (iOf (BitVec.ofInt 64 d'
  &&& BitVec.ofInt 64 3).toNat)) 0) (If (iBne (dE O (cz (chA c)) no (dH0 h0 l d f i a) (dH1 h1 l d f i a) (dRt rt d r) (dL l d f i a q e) d' f' i' a' q' e' k' r') 0) (Value.bool false
  = Value.bool true ∧ True ∧ True) (If (iBne (dE O (cz (chA c)) no (dH0 h0 l d' f' i' a') (dH1 h1 l d' f' i' a') (dRt rt d' r') (dL l d' f' i' a' q' e') d f i a q e k r) 0)
  (Value.bool false = Value.bool true ∧ True ∧ True) (If (iBne (dE O (cz (chA c)) no (dH0 h0 l d f i a) (dH1 h1 l d f i a) (dRt rt d r) (dL l d f i a q e) d' f' i' a' q' e' k' r') 0)
  (Value.bool true = Value.bool true ∧ True ∧ True) (If (iBne (dE O (cz (chA c)) no (dH0 h0 l d' f' i' a') (dH1 h1 l d' f' i' a') (dRt rt d' r') (dL l d' f' i' a' q' e') d f i a q e k
  r) 0) (Value.bool true = Value.bool true ∧ True ∧ True) (Value.bool (sameB 0 0 0 0 [] 0 0 0 0 []) = Value.bool true ∧ True ∧ True))))) (If (iBne (dE O (cz (chA c)) no (dH0 h0 l d f
  i a) (dH1 h1 l d f i a) (dRt rt d r) (dL l d f i a q e) d' f' i' a' q' e' k' r') 0) (Value.bool true = Value.bool true ∧ True ∧ True) (If (iBne (dE O (cz (chA c)) no (dH0 h0 l d' f'
  i' a') (dH1 h1 l d' f' i' a') (dRt rt d' r') (dL l d' f' i' a' q' e') d f i a q e k r) 0) (Value.bool true = Value.bool true ∧ True ∧ True) (Value.bool (sameB 0 0 0 0 [] 0 0 0 0 [])
  = Value.bool true ∧ True ∧ True)))) (If (iBne (dE O (cz (chA c)) no (dH0 h0 l d f i a) (dH1 h1 l d f i a) (dRt rt d r) (dL l d f i a q e) d' f' i' a' q' e' k' r') 0) (Value.bool
  true = Value.bool true ∧ True ∧ True) (If (iBne (dE O (cz (chA c)) no (dH0 h0 l d' f' i' a') (dH1 h1 l d' f' i' a') (dRt rt d' r') (dL l d' f' i' a' q' e') d f i a q e k r) 0)
  (Value.bool true = Value.bool true ∧ True ∧ True) (Value.bool (sameB 0 0 0 0 [] 0 0 0 0 []) = Value.bool true ∧ True ∧ True))))) False)) False) (If (iBne (dE O (cz (chA c)) no h0 h1
  rt l d' f' i' a' q' e' k' r') 0) (Value.bool true = Value.bool true ∧ True ∧ True) (If (chB (chA c) && (dL l d f i a q e).length.ble 1000 && cnd (dL l d f i a q e) && inU q'
  18446744073709551616 && inU k' 18446744073709551616) (If (iBeq (dE O (cz (chA c)) no (dH0 h0 l d f i a) (dH1 h1 l d f i a) (dRt rt d r) (dL l d f i a q e) d' f' i' a' q' e' k' r')
  0) (If (chB (chA c) && Nat.ble 0 1000 && cnd [] && inU q 18446744073709551616 && inU k 18446744073709551616) (If (iBeq (dE O (cz (chA c)) 0 0 0 0 [] d f i a q e k r) 0) (If (iBne
  (IntKind.i64.wrap (iOf (BitVec.ofInt 64 d &&& BitVec.ofInt 64 3).toNat)) 0) (If (iBne (IntKind.i64.wrap (iOf (BitVec.ofInt 64 d' &&& BitVec.ofInt 64 3).toNat)) 0) (If ((dL (dL l d f
  i a q e) d' f' i' a' q' e').length.ble 1000 && cnd (dL (dL l d f i a q e) d' f' i' a' q' e') && (dL [] d f i a q e).length.ble 1000 && cnd (dL [] d f i a q e)) (Value.bool (sameB no
  (dH0 (dH0 h0 l d f i a) (dL l d f i a q e) d' f' i' a') (dH1 (dH1 h1 l d f i a) (dL l d f i a q e) d' f' i' a') (dRt (dRt rt d r) d' r') (dL (dL l d f i a q e) d' f' i' a' q' e') 0
  (dH0 0 [] d f i a) (dH1 0 [] d f i a) (dRt 0 d r) (dL [] d f i a q e)) = Value.bool true ∧ True ∧ True) False) (If ((dL (dL l d f i a q e) d' f' i' a' q' e').length.ble 1000 && cnd
  (dL (dL l d f i a q e) d' f' i' a' q' e') && (dL [] d f i a q e).length.ble 1000 && cnd (dL [] d f i a q e)) (Value.bool (sameB no (dH0 (dH0 h0 l d f i a) (dL l d f i a q e) d' f'
  i' a') (dH1 (dH1 h1 l d f i a) (dL l d f i a q e) d' f' i' a') (dRt (dRt rt d r) d' r') (dL (dL l d f i a q e) d' f' i' a' q' e') 0 (dH0 0 [] d f i a) (dH1 0 [] d f i a) (dRt 0 d r)
  (dL [] d f i a q e)) = Value.bool true ∧ True ∧ True) False)) (If ((dL (dL l d f i a q e) d' f' i' a' q' e').length.ble 1000 && cnd (dL (dL l d f i a q e) d' f' i' a' q' e') && (dL
  [] d f i a q e).length.ble 1000 && cnd (dL [] d f i a q e)) (Value.bool (sameB no (dH0 (dH0 h0 l d f i a) (dL l d f i a q e) d' f' i' a') (dH1 (dH1 h1 l d f i a) (dL l d f i a q e)
  d' f' i' a') (dRt (dRt rt d r) d' r') (dL (dL l d f i a q e) d' f' i' a' q' e') 0 (dH0 0 [] d f i a) (dH1 0 [] d f i a) (dRt 0 d r) (dL [] d f i a q e)) = Value.bool true ∧ True ∧
  True) False)) (If (iBne (IntKind.i64.wrap (iOf (BitVec.ofInt 64 d &&& BitVec.ofInt 64 3).toNat)) 0) (If (iBne (IntKind.i64.wrap (iOf (BitVec.ofInt 64 d' &&& BitVec.ofInt 64
  3).toNat)) 0) (If (iBne (dE O (cz (chA c)) 0 0 0 0 [] d f i a q e k r) 0) (Value.bool false = Value.bool true ∧ True ∧ True) (If (iBne (dE O (cz (chA c)) 0 0 0 0 [] d f i a q e k r)
  0) (Value.bool true = Value.bool true ∧ True ∧ True) (If ((dL (dL l d f i a q e) d' f' i' a' q' e').length.ble 1000 && cnd (dL (dL l d f i a q e) d' f' i' a' q' e') && Nat.ble 0
  1000 && cnd []) (Value.bool (sameB no (dH0 (dH0 h0 l d f i a) (dL l d f i a q e) d' f' i' a') (dH1 (dH1 h1 l d f i a) (dL l d f i a q e) d' f' i' a') (dRt (dRt rt d r) d' r') (dL
  (dL l d f i a q e) d' f' i' a' q' e') 0 0 0 0 []) = Value.bool true ∧ True ∧ True) False))) (If (iBne (dE O (cz (chA c)) 0 0 0 0 [] d f i a q e k r) 0) (Value.bool true = Value.bool
  true ∧ True ∧ True) (If ((dL (dL l d f i a q e) d' f' i' a' q' e').length.ble 1000 && cnd (dL (dL l d f i a q e) d' f' i' a' q' e') && Nat.ble 0 1000 && cnd []) (Value.bool (sameB
  no (dH0 (dH0 h0 l d f i a) (dL l d f i a q e) d' f' i' a') (dH1 (dH1 h1 l d f i a) (dL l d f i a q e) d' f' i' a') (dRt (dRt rt d r) d' r') (dL (dL l d f i a q e) d' f' i' a' q' e')
  0 0 0 0 []) = Value.bool true ∧ True ∧ True) False))) (If (iBne (dE O (cz (chA c)) 0 0 0 0 [] d f i a q e k r) 0) (Value.bool true = Value.bool true ∧ True ∧ True) (If ((dL (dL l d
  f i a q e) d' f' i' a' q' e').length.ble 1000 && cnd (dL (dL l d f i a q e) d' f' i' a' q' e') && Nat.ble 0 1000 && cnd []) (Value.bool (sameB no (dH0 (dH0 h0 l d f i a) (dL l d f i
  a q e) d' f' i' a') (dH1 (dH1 h1 l d f i a) (dL l d f i a q e) d' f' i' a') (dRt (dRt rt d r) d' r') (dL (dL l d f i a q e) d' f' i' a' q' e') 0 0 0 0 []) = Value.bool true ∧ True ∧
  True) False)))) False) (If (chB (chA c) && Nat.ble 0 1000 && cnd [] && inU q 18446744073709551616 && inU k 18446744073709551616) (If (iBeq (dE O (cz (chA c)) 0 0 0 0 [] d f i a q e
  k r) 0) (If (iBne (IntKind.i64.wrap (iOf (BitVec.ofInt 64 d &&& BitVec.ofInt 64 3).toNat)) 0) (If (iBne (IntKind.i64.wrap (iOf (BitVec.ofInt 64 d' &&& BitVec.ofInt 64 3).toNat)) 0)
  (If (iBne (dE O (cz (chA c)) no (dH0 h0 l d f i a) (dH1 h1 l d f i a) (dRt rt d r) (dL l d f i a q e) d' f' i' a' q' e' k' r') 0) (Value.bool false = Value.bool true ∧ True ∧ True)
  (If (iBne (dE O (cz (chA c)) no (dH0 h0 l d f i a) (dH1 h1 l d f i a) (dRt rt d r) (dL l d f i a q e) d' f' i' a' q' e' k' r') 0) (Value.bool true = Value.bool true ∧ True ∧ True)
  (If (Nat.ble 0 1000 && cnd [] && (dL [] d f i a q e).length.ble 1000 && cnd (dL [] d f i a q e)) (Value.bool (sameB 0 0 0 0 [] 0 (dH0 0 [] d f i a) (dH1 0 [] d f i a) (dRt 0 d r)
  (dL [] d f i a q e)) = Value.bool true ∧ True ∧ True) False))) (If (iBne (dE O (cz (chA c)) no (dH0 h0 l d f i a) (dH1 h1 l d f i a) (dRt rt d r) (dL l d f i a q e) d' f' i' a' q'
  e' k' r') 0) (Value.bool true = Value.bool true ∧ True ∧ True) (If (Nat.ble 0 1000 && cnd [] && (dL [] d f i a q e).length.ble 1000 && cnd (dL [] d f i a q e)) (Value.bool (sameB 0
  0 0 0 [] 0 (dH0 0 [] d f i a) (dH1 0 [] d f i a) (dRt 0 d r) (dL [] d f i a q e)) = Value.bool true ∧ True ∧ True) False))) (If (iBne (dE O (cz (chA c)) no (dH0 h0 l d f i a) (dH1
  h1 l d f i a) (dRt rt d r) (dL l d f i a q e) d' f' i' a' q' e' k' r') 0) (Value.bool true = Value.bool true ∧ True ∧ True) (If (Nat.ble 0 1000 && cnd [] && (dL [] d f i a q
  e).length.ble 1000 && cnd (dL [] d f i a q e)) (Value.bool (sameB 0 0 0 0 [] 0 (dH0 0 [] d f i a) (dH1 0 [] d f i a) (dRt 0 d r) (dL [] d f i a q e)) = Value.bool true ∧ True ∧
  True) False))) (If (iBne (IntKind.i64.wrap (iOf (BitVec.ofInt 64 d &&& BitVec.ofInt 64 3).toNat)) 0) (If (iBne (IntKind.i64.wrap (iOf (BitVec.ofInt 64 d' &&& BitVec.ofInt 64
  3).toNat)) 0) (If (iBne (dE O (cz (chA c)) no (dH0 h0 l d f i a) (dH1 h1 l d f i a) (dRt rt d r) (dL l d f i a q e) d' f' i' a' q' e' k' r') 0) (Value.bool false = Value.bool true ∧
  True ∧ True) (If (iBne (dE O (cz (chA c)) 0 0 0 0 [] d f i a q e k r) 0) (Value.bool false = Value.bool true ∧ True ∧ True) (If (iBne (dE O (cz (chA c)) no (dH0 h0 l d f i a) (dH1
  h1 l d f i a) (dRt rt d r) (dL l d f i a q e) d' f' i' a' q' e' k' r') 0) (Value.bool true = Value.bool true ∧ True ∧ True) (If (iBne (dE O (cz (chA c)) 0 0 0 0 [] d f i a q e k r)
  0) (Value.bool true = Value.bool true ∧ True ∧ True) (Value.bool (sameB 0 0 0 0 [] 0 0 0 0 []) = Value.bool true ∧ True ∧ True))))) (If (iBne (dE O (cz (chA c)) no (dH0 h0 l d f i
  a) (dH1 h1 l d f i a) (dRt rt d r) (dL l d f i a q e) d' f' i' a' q' e' k' r') 0) (Value.bool true = Value.bool true ∧ True ∧ True) (If (iBne (dE O (cz (chA c)) 0 0 0 0 [] d f i a q
  e k r) 0) (Value.bool true = Value.bool true ∧ True ∧ True) (Value.bool (sameB 0 0 0 0 [] 0 0 0 0 []) = Value.bool true ∧ True ∧ True)))) (If (iBne (dE O (cz (chA c)) no (dH0 h0 l d
  f i a) (dH1 h1 l d f i a) (dRt rt d r) (dL l d f i a q e) d' f' i' a' q' e' k' r') 0) (Value.bool true = Value.bool true ∧ True ∧ True) (If (iBne (dE O (cz (chA c)) 0 0 0 0 [] d f i
  a q e k r) 0) (Value.bool true = Value.bool true ∧ True ∧ True) (Value.bool (sameB 0 0 0 0 [] 0 0 0 0 []) = Value.bool true ∧ True ∧ True))))) False)) False))) False) (If (chB (chA
  c) && l.length.ble 1000 && cnd l && inU q' 18446744073709551616 && inU k' 18446744073709551616) (If (iBeq (dE O (cz (chA c)) no h0 h1 rt l d' f' i' a' q' e' k' r') 0) (If (iBne (dE
  O (cz (chA c)) no h0 h1 rt l d f i a q e k r) 0) (Value.bool true = Value.bool true ∧ True ∧ True) (If (chB (chA c) && Nat.ble 0 1000 && cnd [] && inU q' 18446744073709551616 && inU
  k' 18446744073709551616) (If (iBeq (dE O (cz (chA c)) 0 0 0 0 [] d' f' i' a' q' e' k' r') 0) (If (chB (chA c) && (dL l d' f' i' a' q' e').length.ble 1000 && cnd (dL l d' f' i' a' q'
  e') && inU q 18446744073709551616 && inU k 18446744073709551616) (If (iBeq (dE O (cz (chA c)) no (dH0 h0 l d' f' i' a') (dH1 h1 l d' f' i' a') (dRt rt d' r') (dL l d' f' i' a' q'
  e') d f i a q e k r) 0) (If (iBne (IntKind.i64.wrap (iOf (BitVec.ofInt 64 d &&& BitVec.ofInt 64 3).toNat)) 0) (If (iBne (IntKind.i64.wrap (iOf (BitVec.ofInt 64 d' &&& BitVec.ofInt
  64 3).toNat)) 0) (If ((dL [] d' f' i' a' q' e').length.ble 1000 && cnd (dL [] d' f' i' a' q' e') && (dL (dL l d' f' i' a' q' e') d f i a q e).length.ble 1000 && cnd (dL (dL l d' f'
  i' a' q' e') d f i a q e)) (Value.bool (sameB 0 (dH0 0 [] d' f' i' a') (dH1 0 [] d' f' i' a') (dRt 0 d' r') (dL [] d' f' i' a' q' e') no (dH0 (dH0 h0 l d' f' i' a') (dL l d' f' i'
  a' q' e') d f i a) (dH1 (dH1 h1 l d' f' i' a') (dL l d' f' i' a' q' e') d f i a) (dRt (dRt rt d' r') d r) (dL (dL l d' f' i' a' q' e') d f i a q e)) = Value.bool true ∧ True ∧ True)
  False) (If ((dL [] d' f' i' a' q' e').length.ble 1000 && cnd (dL [] d' f' i' a' q' e') && (dL (dL l d' f' i' a' q' e') d f i a q e).length.ble 1000 && cnd (dL (dL l d' f' i' a' q'
  e') d f i a q e)) (Value.bool (sameB 0 (dH0 0 [] d' f' i' a') (dH1 0 [] d' f' i' a') (dRt 0 d' r') (dL [] d' f' i' a' q' e') no (dH0 (dH0 h0 l d' f' i' a') (dL l d' f' i' a' q' e')
  d f i a) (dH1 (dH1 h1 l d' f' i' a') (dL l d' f' i' a' q' e') d f i a) (dRt (dRt rt d' r') d r) (dL (dL l d' f' i' a' q' e') d f i a q e)) = Value.bool true ∧ True ∧ True) False))
  (If ((dL [] d' f' i' a' q' e').length.ble 1000 && cnd (dL [] d' f' i' a' q' e') && (dL (dL l d' f' i' a' q' e') d f i a q e).length.ble 1000 && cnd (dL (dL l d' f' i' a' q' e') d f
  i a q e)) (Value.bool (sameB 0 (dH0 0 [] d' f' i' a') (dH1 0 [] d' f' i' a') (dRt 0 d' r') (dL [] d' f' i' a' q' e') no (dH0 (dH0 h0 l d' f' i' a') (dL l d' f' i' a' q' e') d f i a)
  (dH1 (dH1 h1 l d' f' i' a') (dL l d' f' i' a' q' e') d f i a) (dRt (dRt rt d' r') d r) (dL (dL l d' f' i' a' q' e') d f i a q e)) = Value.bool true ∧ True ∧ True) False)) (If (iBne
  (IntKind.i64.wrap (iOf (BitVec.ofInt 64 d &&& BitVec.ofInt 64 3).toNat)) 0) (If (iBne (IntKind.i64.wrap (iOf (BitVec.ofInt 64 d' &&& BitVec.ofInt 64 3).toNat)) 0) (If (iBne (dE O
  (cz (chA c)) no (dH0 h0 l d' f' i' a') (dH1 h1 l d' f' i' a') (dRt rt d' r') (dL l d' f' i' a' q' e') d f i a q e k r) 0) (Value.bool false = Value.bool true ∧ True ∧ True) (If
  (iBne (dE O (cz (chA c)) no (dH0 h0 l d' f' i' a') (dH1 h1 l d' f' i' a') (dRt rt d' r') (dL l d' f' i' a' q' e') d f i a q e k r) 0) (Value.bool true = Value.bool true ∧ True ∧
  True) (If ((dL [] d' f' i' a' q' e').length.ble 1000 && cnd (dL [] d' f' i' a' q' e') && Nat.ble 0 1000 && cnd []) (Value.bool (sameB 0 (dH0 0 [] d' f' i' a') (dH1 0 [] d' f' i' a')
  (dRt 0 d' r') (dL [] d' f' i' a' q' e') 0 0 0 0 []) = Value.bool true ∧ True ∧ True) False))) (If (iBne (dE O (cz (chA c)) no (dH0 h0 l d' f' i' a') (dH1 h1 l d' f' i' a') (dRt rt
  d' r') (dL l d' f' i' a' q' e') d f i a q e k r) 0) (Value.bool true = Value.bool true ∧ True ∧ True) (If ((dL [] d' f' i' a' q' e').length.ble 1000 && cnd (dL [] d' f' i' a' q' e')
  && Nat.ble 0 1000 && cnd []) (Value.bool (sameB 0 (dH0 0 [] d' f' i' a') (dH1 0 [] d' f' i' a') (dRt 0 d' r') (dL [] d' f' i' a' q' e') 0 0 0 0 []) = Value.bool true ∧ True ∧ True)
  False))) (If (iBne (dE O (cz (chA c)) no (dH0 h0 l d' f' i' a') (dH1 h1 l d' f' i' a') (dRt rt d' r') (dL l d' f' i' a' q' e') d f i a q e k r) 0) (Value.bool true = Value.bool true
  ∧ True ∧ True) (If ((dL [] d' f' i' a' q' e').length.ble 1000 && cnd (dL [] d' f' i' a' q' e') && Nat.ble 0 1000 && cnd []) (Value.bool (sameB 0 (dH0 0 [] d' f' i' a') (dH1 0 [] d'
  f' i' a') (dRt 0 d' r') (dL [] d' f' i' a' q' e') 0 0 0 0 []) = Value.bool true ∧ True ∧ True) False)))) False) (If (chB (chA c) && (dL l d' f' i' a' q' e').length.ble 1000 && cnd
  (dL l d' f' i' a' q' e') && inU q 18446744073709551616 && inU k 18446744073709551616) (If (iBeq (dE O (cz (chA c)) no (dH0 h0 l d' f' i' a') (dH1 h1 l d' f' i' a') (dRt rt d' r')
  (dL l d' f' i' a' q' e') d f i a q e k r) 0) (If (iBne (IntKind.i64.wrap (iOf (BitVec.ofInt 64 d &&& BitVec.ofInt 64 3).toNat)) 0) (If (iBne (IntKind.i64.wrap (iOf (BitVec.ofInt 64
  d' &&& BitVec.ofInt 64 3).toNat)) 0) (If (iBne (dE O (cz (chA c)) 0 0 0 0 [] d' f' i' a' q' e' k' r') 0) (Value.bool false = Value.bool true ∧ True ∧ True) (If (iBne (dE O (cz (chA
  c)) 0 0 0 0 [] d' f' i' a' q' e' k' r') 0) (Value.bool true = Value.bool true ∧ True ∧ True) (If (Nat.ble 0 1000 && cnd [] && (dL (dL l d' f' i' a' q' e') d f i a q e).length.ble
  1000 && cnd (dL (dL l d' f' i' a' q' e') d f i a q e)) (Value.bool (sameB 0 0 0 0 [] no (dH0 (dH0 h0 l d' f' i' a') (dL l d' f' i' a' q' e') d f i a) (dH1 (dH1 h1 l d' f' i' a') (dL
  l d' f' i' a' q' e') d f i a) (dRt (dRt rt d' r') d r) (dL (dL l d' f' i' a' q' e') d f i a q e)) = Value.bool true ∧ True ∧ True) False))) (If (iBne (dE O (cz (chA c)) 0 0 0 0 []
  d' f' i' a' q' e' k' r') 0) (Value.bool true = Value.bool true ∧ True ∧ True) (If (Nat.ble 0 1000 && cnd [] && (dL (dL l d' f' i' a' q' e') d f i a q e).length.ble 1000 && cnd (dL
  (dL l d' f' i' a' q' e') d f i a q e)) (Value.bool (sameB 0 0 0 0 [] no (dH0 (dH0 h0 l d' f' i' a') (dL l d' f' i' a' q' e') d f i a) (dH1 (dH1 h1 l d' f' i' a') (dL l d' f' i' a'
  q' e') d f i a) (dRt (dRt rt d' r') d r) (dL (dL l d' f' i' a' q' e') d f i a q e)) = Value.bool true ∧ True ∧ True) False))) (If (iBne (dE O (cz (chA c)) 0 0 0 0 [] d' f' i' a' q'
  e' k' r') 0) (Value.bool true = Value.bool true ∧ True ∧ True) (If (Nat.ble 0 1000 && cnd [] && (dL (dL l d' f' i' a' q' e') d f i a q e).length.ble 1000 && cnd (dL (dL l d' f' i'
  a' q' e') d f i a q e)) (Value.bool (sameB 0 0 0 0 [] no (dH0 (dH0 h0 l d' f' i' a') (dL l d' f' i' a' q' e') d f i a) (dH1 (dH1 h1 l d' f' i' a') (dL l d' f' i' a' q' e') d f i a)
  (dRt (dRt rt d' r') d r) (dL (dL l d' f' i' a' q' e') d f i a q e)) = Value.bool true ∧ True ∧ True) False))) (If (iBne (IntKind.i64.wrap (iOf (BitVec.ofInt 64 d &&& BitVec.ofInt 64
  3).toNat)) 0) (If (iBne (IntKind.i64.wrap (iOf (BitVec.ofInt 64 d' &&& BitVec.ofInt 64 3).toNat)) 0) (If (iBne (dE O (cz (chA c)) 0 0 0 0 [] d' f' i' a' q' e' k' r') 0) (Value.bool
  false = Value.bool true ∧ True ∧ True) (If (iBne (dE O (cz (chA c)) no (dH0 h0 l d' f' i' a') (dH1 h1 l d' f' i' a') (dRt rt d' r') (dL l d' f' i' a' q' e') d f i a q e k r) 0)
  (Value.bool false = Value.bool true ∧ True ∧ True) (If (iBne (dE O (cz (chA c)) 0 0 0 0 [] d' f' i' a' q' e' k' r') 0) (Value.bool true = Value.bool true ∧ True ∧ True) (If (iBne
  (dE O (cz (chA c)) no (dH0 h0 l d' f' i' a') (dH1 h1 l d' f' i' a') (dRt rt d' r') (dL l d' f' i' a' q' e') d f i a q e k r) 0) (Value.bool true = Value.bool true ∧ True ∧ True)
  (Value.bool (sameB 0 0 0 0 [] 0 0 0 0 []) = Value.bool true ∧ True ∧ True))))) (If (iBne (dE O (cz (chA c)) 0 0 0 0 [] d' f' i' a' q' e' k' r') 0) (Value.bool true = Value.bool true
  ∧ True ∧ True) (If (iBne (dE O (cz (chA c)) no (dH0 h0 l d' f' i' a') (dH1 h1 l d' f' i' a') (dRt rt d' r') (dL l d' f' i' a' q' e') d f i a q e k r) 0) (Value.bool true =
  Value.bool true ∧ True ∧ True) (Value.bool (sameB 0 0 0 0 [] 0 0 0 0 []) = Value.bool true ∧ True ∧ True)))) (If (iBne (dE O (cz (chA c)) 0 0 0 0 [] d' f' i' a' q' e' k' r') 0)
  (Value.bool true = Value.bool true ∧ True ∧ True) (If (iBne (dE O (cz (chA c)) no (dH0 h0 l d' f' i' a') (dH1 h1 l d' f' i' a') (dRt rt d' r') (dL l d' f' i' a' q' e') d f i a q e k
  r) 0) (Value.bool true = Value.bool true ∧ True ∧ True) (Value.bool (sameB 0 0 0 0 [] 0 0 0 0 []) = Value.bool true ∧ True ∧ True))))) False)) False)) (If (iBne (dE O (cz (chA c))
  no h0 h1 rt l d f i a q e k r) 0) (Value.bool true = Value.bool true ∧ True ∧ True) (If (iBne (dE O (cz (chA c)) no h0 h1 rt l d' f' i' a' q' e' k' r') 0) (Value.bool true =
  Value.bool true ∧ True ∧ True) (If (chB (chA c) && Nat.ble 0 1000 && cnd [] && inU q' 18446744073709551616 && inU k' 18446744073709551616) (If (iBeq (dE O (cz (chA c)) 0 0 0 0 [] d'
  f' i' a' q' e' k' r') 0) (If (chB (chA c) && Nat.ble 0 1000 && cnd [] && inU q 18446744073709551616 && inU k 18446744073709551616) (If (iBeq (dE O (cz (chA c)) 0 0 0 0 [] d f i a q
  e k r) 0) (If (iBne (IntKind.i64.wrap (iOf (BitVec.ofInt 64 d &&& BitVec.ofInt 64 3).toNat)) 0) (If (iBne (IntKind.i64.wrap (iOf (BitVec.ofInt 64 d' &&& BitVec.ofInt 64 3).toNat))
  0) (If ((dL [] d' f' i' a' q' e').length.ble 1000 && cnd (dL [] d' f' i' a' q' e') && (dL [] d f i a q e).length.ble 1000 && cnd (dL [] d f i a q e)) (Value.bool (sameB 0 (dH0 0 []
  d' f' i' a') (dH1 0 [] d' f' i' a') (dRt 0 d' r') (dL [] d' f' i' a' q' e') 0 (dH0 0 [] d f i a) (dH1 0 [] d f i a) (dRt 0 d r) (dL [] d f i a q e)) = Value.bool true ∧ True ∧ True)
  False) (If ((dL [] d' f' i' a' q' e').length.ble 1000 && cnd (dL [] d' f' i' a' q' e') && (dL [] d f i a q e).length.ble 1000 && cnd (dL [] d f i a q e)) (Value.bool (sameB 0 (dH0 0
  [] d' f' i' a') (dH1 0 [] d' f' i' a') (dRt 0 d' r') (dL [] d' f' i' a' q' e') 0 (dH0 0 [] d f i a) (dH1 0 [] d f i a) (dRt 0 d r) (dL [] d f i a q e)) = Value.bool true ∧ True ∧
  True) False)) (If ((dL [] d' f' i' a' q' e').length.ble 1000 && cnd (dL [] d' f' i' a' q' e') && (dL [] d f i a q e).length.ble 1000 && cnd (dL [] d f i a q e)) (Value.bool (sameB 0
  (dH0 0 [] d' f' i' a') (dH1 0 [] d' f' i' a') (dRt 0 d' r') (dL [] d' f' i' a' q' e') 0 (dH0 0 [] d f i a) (dH1 0 [] d f i a) (dRt 0 d r) (dL [] d f i a q e)) = Value.bool true ∧
  True ∧ True) False)) (If (iBne (IntKind.i64.wrap (iOf (BitVec.ofInt 64 d &&& BitVec.ofInt 64 3).toNat)) 0) (If (iBne (IntKind.i64.wrap (iOf (BitVec.ofInt 64 d' &&& BitVec.ofInt 64
  3).toNat)) 0) (If (iBne (dE O (cz (chA c)) 0 0 0 0 [] d f i a q e k r) 0) (Value.bool false = Value.bool true ∧ True ∧ True) (If (iBne (dE O (cz (chA c)) 0 0 0 0 [] d f i a q e k r)
  0) (Value.bool true = Value.bool true ∧ True ∧ True) (If ((dL [] d' f' i' a' q' e').length.ble 1000 && cnd (dL [] d' f' i' a' q' e') && Nat.ble 0 1000 && cnd []) (Value.bool (sameB
  0 (dH0 0 [] d' f' i' a') (dH1 0 [] d' f' i' a') (dRt 0 d' r') (dL [] d' f' i' a' q' e') 0 0 0 0 []) = Value.bool true ∧ True ∧ True) False))) (If (iBne (dE O (cz (chA c)) 0 0 0 0 []
  d f i a q e k r) 0) (Value.bool true = Value.bool true ∧ True ∧ True) (If ((dL [] d' f' i' a' q' e').length.ble 1000 && cnd (dL [] d' f' i' a' q' e') && Nat.ble 0 1000 && cnd [])
  (Value.bool (sameB 0 (dH0 0 [] d' f' i' a') (dH1 0 [] d' f' i' a') (dRt 0 d' r') (dL [] d' f' i' a' q' e') 0 0 0 0 []) = Value.bool true ∧ True ∧ True) False))) (If (iBne (dE O (cz
  (chA c)) 0 0 0 0 [] d f i a q e k r) 0) (Value.bool true = Value.bool true ∧ True ∧ True) (If ((dL [] d' f' i' a' q' e').length.ble 1000 && cnd (dL [] d' f' i' a' q' e') && Nat.ble
  0 1000 && cnd []) (Value.bool (sameB 0 (dH0 0 [] d' f' i' a') (dH1 0 [] d' f' i' a') (dRt 0 d' r') (dL [] d' f' i' a' q' e') 0 0 0 0 []) = Value.bool true ∧ True ∧ True) False))))
  False) (If (chB (chA c) && Nat.ble 0 1000 && cnd [] && inU q 18446744073709551616 && inU k 18446744073709551616) (If (iBeq (dE O (cz (chA c)) 0 0 0 0 [] d f i a q e k r) 0) (If
  (iBne (IntKind.i64.wrap (iOf (BitVec.ofInt 64 d &&& BitVec.ofInt 64 3).toNat)) 0) (If (iBne (IntKind.i64.wrap (iOf (BitVec.ofInt 64 d' &&& BitVec.ofInt 64 3).toNat)) 0) (If (iBne
  (dE O (cz (chA c)) 0 0 0 0 [] d' f' i' a' q' e' k' r') 0) (Value.bool false = Value.bool true ∧ True ∧ True) (If (iBne (dE O (cz (chA c)) 0 0 0 0 [] d' f' i' a' q' e' k' r') 0)
  (Value.bool true = Value.bool true ∧ True ∧ True) (If (Nat.ble 0 1000 && cnd [] && (dL [] d f i a q e).length.ble 1000 && cnd (dL [] d f i a q e)) (Value.bool (sameB 0 0 0 0 [] 0
  (dH0 0 [] d f i a) (dH1 0 [] d f i a) (dRt 0 d r) (dL [] d f i a q e)) = Value.bool true ∧ True ∧ True) False))) (If (iBne (dE O (cz (chA c)) 0 0 0 0 [] d' f' i' a' q' e' k' r') 0)
  (Value.bool true = Value.bool true ∧ True ∧ True) (If (Nat.ble 0 1000 && cnd [] && (dL [] d f i a q e).length.ble 1000 && cnd (dL [] d f i a q e)) (Value.bool (sameB 0 0 0 0 [] 0
  (dH0 0 [] d f i a) (dH1 0 [] d f i a) (dRt 0 d r) (dL [] d f i a q e)) = Value.bool true ∧ True ∧ True) False))) (If (iBne (dE O (cz (chA c)) 0 0 0 0 [] d' f' i' a' q' e' k' r') 0)
  (Value.bool true = Value.bool true ∧ True ∧ True) (If (Nat.ble 0 1000 && cnd [] && (dL [] d f i a q e).length.ble 1000 && cnd (dL [] d f i a q e)) (Value.bool (sameB 0 0 0 0 [] 0
  (dH0 0 [] d f i a) (dH1 0 [] d f i a) (dRt 0 d r) (dL [] d f i a q e)) = Value.bool true ∧ True ∧ True) False))) (If (iBne (IntKind.i64.wrap (iOf (BitVec.ofInt 64 d &&& BitVec.ofInt
  64 3).toNat)) 0) (If (iBne (IntKind.i64.wrap (iOf (BitVec.ofInt 64 d' &&& BitVec.ofInt 64 3).toNat)) 0) (If (iBne (dE O (cz (chA c)) 0 0 0 0 [] d' f' i' a' q' e' k' r') 0)
  (Value.bool false = Value.bool true ∧ True ∧ True) (If (iBne (dE O (cz (chA c)) 0 0 0 0 [] d f i a q e k r) 0) (Value.bool false = Value.bool true ∧ True ∧ True) (If (iBne (dE O (cz
  (chA c)) 0 0 0 0 [] d' f' i' a' q' e' k' r') 0) (Value.bool true = Value.bool true ∧ True ∧ True) (If (iBne (dE O (cz (chA c)) 0 0 0 0 [] d f i a q e k r) 0) (Value.bool true =
  Value.bool true ∧ True ∧ True) (Value.bool (sameB 0 0 0 0 [] 0 0 0 0 []) = Value.bool true ∧ True ∧ True))))) (If (iBne (dE O (cz (chA c)) 0 0 0 0 [] d' f' i' a' q' e' k' r') 0)
  (Value.bool true = Value.bool true ∧ True ∧ True) (If (iBne (dE O (cz (chA c)) 0 0 0 0 [] d f i a q e k r) 0) (Value.bool true = Value.bool true ∧ True ∧ True) (Value.bool (sameB 0
  0 0 0 [] 0 0 0 0 []) = Value.bool true ∧ True ∧ True)))) (If (iBne (dE O (cz (chA c)) 0 0 0 0 [] d' f' i' a' q' e' k' r') 0) (Value.bool true = Value.bool true ∧ True ∧ True) (If
  (iBne (dE O (cz (chA c)) 0 0 0 0 [] d f i a q e k r) 0) (Value.bool true = Value.bool true ∧ True ∧ True) (Value.bool (sameB 0 0 0 0 [] 0 0 0 0 []) = Value.bool true ∧ True ∧
  True))))) False)) False)))) False)) False)))) := by
 simp only [ec]
 refine Sx.if_both (fun _ => (by first | rfl | trivial)) (fun hf => ?_)
 have l20 := few_len hf
 have l1 : Nat.ble l.length 1000 = true := by rw [Nat.ble_eq]; omega
 have hd : IntKind.i64.wrap (iOf (BitVec.ofInt 64 d &&& BitVec.ofInt 64 3).toNat) = actK d := rfl
 have hd' : IntKind.i64.wrap (iOf (BitVec.ofInt 64 d' &&& BitVec.ofInt 64 3).toNat) = actK d' := rfl
 simp only [hd, hd', hc, l1, g1, g2, g3, g4, g5, Bool.and_self, Sx.If]
 have both : ∀ R M : Prop, R → (¬ (f = f' ∧ i = i') → M) → Sx.If (iBeq f f') (Sx.If (iBeq i i') R M) M := fun R M hR hM => by
  cases zf : iBeq f f' with
  | true => cases zi : iBeq i i' with
   | true => exact hR
   | false => exact hM (fun h => by rw [iBeq_f] at zi; exact zi h.2)
  | false => exact hM (fun h => by rw [iBeq_f] at zf; exact zf h.1)
 refine Sx.if_both (fun _ => ⟨trivial, trivial, trivial⟩) (fun n3 => Sx.if_both (fun _ => ⟨trivial, trivial, trivial⟩) (fun n3' => both _ _ ⟨trivial, trivial, trivial⟩ (fun hne => ?_)))
 ·have n3 : actK d ≠ 3 := by rw [iBeq_f] at n3; exact n3
  have n3' : actK d' ≠ 3 := by rw [iBeq_f] at n3'; exact n3'
  have hne' : ¬ (f' = f ∧ i' = i) := fun h => hne ⟨h.1.symm, h.2.symm⟩
  have ne : ∀ {x : Int}, iBeq x 0 = false → iBne x 0 = true := fun {x} h => by rw [iBeq_f] at h; rw [iBne_t]; exact h
  have eq : ∀ {x : Int}, iBeq x 0 = true → x = 0 := fun {x} h => by rw [iBeq_t] at h; exact h
  cases zA : iBeq (dE O c no h0 h1 rt l d f i a q e k r) 0 with
  | false => cases zB : iBeq (dE O c no h0 h1 rt l d' f' i' a' q' e' k' r') 0 <;> simp only [ne zA, Sx.If, and_self]
  | true => cases zB : iBeq (dE O c no h0 h1 rt l d' f' i' a' q' e' k' r') 0 with
   | false => simp only [ne zB, Sx.If, and_self]
   | true =>
    have A := done_act hc (eq zA) n3
    have B := done_act hc (eq zB) n3'
    have cA := cnd_dL (d := d) (f := f) (i := i) (a := a) (e := e) g1 g2
    have cB := cnd_dL (d := d') (f := f') (i := i') (a := a') (e := e') g1 g4
    have lA : Nat.ble (dL l d f i a q e).length 1000 = true := by have := A.now.len; rw [Nat.ble_eq]; omega
    have lB : Nat.ble (dL l d' f' i' a' q' e').length 1000 = true := by have := B.now.len; rw [Nat.ble_eq]; omega
    simp only [cA, cB, lA, lB, Bool.and_self, Sx.If]
    have no2 : iBne (actK d) 0 = true → iBne (actK d') 0 = true → dE O c no (dH0 h0 l d f i a) (dH1 h1 l d f i a) (dRt rt d r) (dL l d f i a q e) d' f' i' a' q' e' k' r' = 0 ∧ dE O c no (dH0 h0 l d' f' i' a') (dH1 h1 l d' f' i' a') (dRt rt d' r') (dL l d' f' i' a' q' e') d f i a q e k r = 0 := fun h1 h2 => by
     rw [iBne_t] at h1 h2
     exact ⟨act_again A (eq zB) hne h2 n3', act_again B (eq zA) hne' h1 n3⟩
    cases zAB : iBeq (dE O c no (dH0 h0 l d f i a) (dH1 h1 l d f i a) (dRt rt d r) (dL l d f i a q e) d' f' i' a' q' e' k' r') 0 with
    | false =>
     have nAB := ne zAB
     cases zBA : iBeq (dE O c no (dH0 h0 l d' f' i' a') (dH1 h1 l d' f' i' a') (dRt rt d' r') (dL l d' f' i' a' q' e') d f i a q e k r) 0 <;> (cases k1 : iBne (actK d) 0 with
      | false => simp only [nAB, Sx.If, and_self]
      | true => cases k2 : iBne (actK d') 0 with
       | false => simp only [nAB, Sx.If, and_self]
       | true => have := (no2 k1 k2).1; rw [iBeq_f] at zAB; exact absurd this zAB)
    | true => cases zBA : iBeq (dE O c no (dH0 h0 l d' f' i' a') (dH1 h1 l d' f' i' a') (dRt rt d' r') (dL l d' f' i' a' q' e') d f i a q e k r) 0 with
     | false =>
      have nBA := ne zBA
      cases k1 : iBne (actK d) 0 with
      | false => simp only [nBA, Sx.If, and_self]
      | true => cases k2 : iBne (actK d') 0 with
       | false => simp only [nBA, Sx.If, and_self]
       | true => have := (no2 k1 k2).2; rw [iBeq_f] at zBA; exact absurd this zBA
     | true =>
      have AB := done_act hc (eq zAB) n3'
      have BA := done_act hc (eq zBA) n3
      have cAB := cnd_dL (d := d') (f := f') (i := i') (a := a') (e := e') cA g4
      have cBA := cnd_dL (d := d) (f := f) (i := i) (a := a) (e := e) cB g2
      have lAB : Nat.ble (dL (dL l d f i a q e) d' f' i' a' q' e').length 1000 = true := by have := AB.now.len; rw [Nat.ble_eq]; omega
      have lBA : Nat.ble (dL (dL l d' f' i' a' q' e') d f i a q e).length 1000 = true := by have := BA.now.len; rw [Nat.ble_eq]; omega
      obtain ⟨t1, t2, t3, t4⟩ := act_turn A B AB BA hne
      simp only [cAB, cBA, lAB, lBA, Bool.and_self, Sx.If, t1, t2, t3, t4, same_self, ite_self, and_self]
      cases iBne (actK d) 0 <;> cases iBne (actK d') 0 <;> trivial
theorem wpc_sturns (O : OO) (Y : OY) (c : Nat → Int) (no h0 h1 rt : Int) (l : List (List Int)) (d f i a q e k r d' f' i' a' q' e' k' r' : Int) (F : FO O) (hy : Y = yO O) (hc : chB (chA c) = true) (g0 : Nat.ble l.length 9223372036854775807 = true) (g1 : cnd l = true) (g2 : inU q 18446744073709551616 = true) (g3 : inU k 18446744073709551616 = true) (g4 : inU q' 18446744073709551616 = true) (g5 : inU k' 18446744073709551616 = true) (ec : cz (chA c) = c) : wpcI Try.prog (spS23 O Y) Try.f7.ntmps [] (bodyOf Try.f7) 0 64 (envP (mks [.v, .agg [.v, .v, .v, .roS [.i64, .i64, .i64, .u64, .i64], .v], .v, .v] [.v (.agg (chA c)), .node [.v (.int .i64 no), .v (.int .i64 h0), .v (.int .i64 h1), .structs l, .v (.int .i64 rt)], .v (.agg ⟨[.int .i64 d, .int .i64 f, .int .i64 i, .int .i64 a, .int .u64 q, .int .i64 e, .int .u64 k, .int .i64 r]⟩), .v (.agg ⟨[.int .i64 d', .int .i64 f', .int .i64 i', .int .i64 a', .int .u64 q', .int .i64 e', .int .u64 k', .int .i64 r']⟩)] 0).1 0) (mks [.v, .agg [.v, .v, .v, .roS [.i64, .i64, .i64, .u64, .i64], .v], .v, .v] [.v (.agg (chA c)), .node [.v (.int .i64 no), .v (.int .i64 h0), .v (.int .i64 h1), .structs l, .v (.int .i64 rt)], .v (.agg ⟨[.int .i64 d, .int .i64 f, .int .i64 i, .int .i64 a, .int .u64 q, .int .i64 e, .int .u64 k, .int .i64 r]⟩), .v (.agg ⟨[.int .i64 d', .int .i64 f', .int .i64 i', .int .i64 a', .int .u64 q', .int .i64 e', .int .u64 k', .int .i64 r']⟩)] 0).2 (retP Try.prog Try.f7.results.toList 12 (⟨[.v (.bool true)], []⟩ : Post)) :=
 Eq.mpr (by kernel_rfl) (vc_sturns O Y c no h0 h1 rt l d f i a q e k r d' f' i' a' q' e' k' r' F hy hc g0 g1 g2 g3 g4 g5 ec)
theorem ok_sturns (I : Sx.Interp) (O : OO) (hO : O = oo) (Y : OY) (hY : Y = yO O) : Sx.SpecOK I Try.prog 7 (pspec [.v, .agg [.v, .v, .v, .roS [.i64, .i64, .i64, .u64, .i64], .v], .v, .v] false (g_sturns O Y)) := by
 refine spec_patI (spS23_ok I O hO Y hY) (by kernel_rfl) (fun ds => match ds with | [.v (.agg ch), .node [.v (.int .i64 no), .v (.int .i64 h0), .v (.int .i64 h1), .structs l, .v (.int .i64 rt)], .v (.agg ⟨[.int .i64 d, .int .i64 f, .int .i64 i, .int .i64 a, .int .u64 q, .int .i64 e, .int .u64 k, .int .i64 r]⟩), .v (.agg ⟨[.int .i64 d', .int .i64 f', .int .i64 i', .int .i64 a', .int .u64 q', .int .i64 e', .int .u64 k', .int .i64 r']⟩)] => [] | _ => []) Try.func7 (by kernel_rfl) (by kernel_rfl) rfl Try.ntmps7 (by decide) ?_ ?_
 ·intro ds p bs F h
  unfold g_sturns at h
  split at h
  ·simp only [Option.some.injEq, Prod.mk.injEq] at h
   obtain ⟨_, _, rfl⟩ := h
   kernel_rfl
  ·cases h
 ·intro ds bs F hl h
  unfold g_sturns at h
  split at h
  ·rename_i ch no h0 h1 l rt d f i a q e k r d' f' i' a' q' e' k' r'
   simp only [Option.some.injEq, Prod.mk.injEq, Bool.and_eq_true] at h
   obtain ⟨⟨⟨⟨⟨⟨⟨hc, g0⟩, g1⟩, g2⟩, g3⟩, g4⟩, g5⟩, _, rfl⟩ := h
   obtain ⟨c, ec, rfl⟩ : ∃ c, cz ch = c ∧ ch = chA c := ⟨_, rfl, chB_eq hc⟩
   simp only [ec]
   exact wpc_sturns O Y c no h0 h1 rt l d f i a q e k r d' f' i' a' q' e' k' r' (fo_oo O hO) hY hc g0 g1 g2 g3 g4 g5 (ec)
  ·cases h
end Go.Proofs.Ytgekiddgdjeaiaa
