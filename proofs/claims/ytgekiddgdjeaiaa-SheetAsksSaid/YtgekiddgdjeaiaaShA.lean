/- Sheet: the walk of SheetAsks (printed by genSh.py; VCs by VcTool). -/
import Derived.Test.YtgekiddgdjeaiaaSh9
namespace Go.Proofs.Ytgekiddgdjeaiaa
open Go.RowKit Go.Lib Ckp Cfd Cpd Sx
set_option linter.unusedVariables false
set_option linter.unusedSimpArgs false
set_option maxRecDepth 1000000
theorem dummyA : True := trivial
def g_sasks0 (O : OO) (Y : OY) (ds : List Dt) : Option (Bool × List Bool × (List Bool → Post)) := match ds with
 | [.v (.agg ch), .node [.v (.int .i64 no), .v (.int .i64 h0), .v (.int .i64 h1), .structs l, .v (.int .i64 rt)], .v (.agg ⟨[.int .i64 0, .int .i64 i, .int .i64 a, .int .u64 q, .int .i64 e]⟩)] => some ((chB ch) && (Nat.ble l.length 9223372036854775807) && (cnd l) && (inU q 18446744073709551616), [], fun _ => ⟨[.v (.bool true)], []⟩)
 | _ => none
set_option maxHeartbeats 4000000 in
theorem vc_sasks0 (O : OO) (Y : OY) (c : Nat → Int) (no h0 h1 rt : Int) (l : List (List Int)) (i a q e : Int) (F : FO O) (hy : Y = yO O) (hc : chB (chA c) = true) (g0 : Nat.ble l.length 9223372036854775807 = true) (g1 : cnd l = true) (g2 : inU q 18446744073709551616 = true) (ec : cz (chA c) = c) :
 If (!fewB h0 h1 rt l) (Value.bool true = Value.bool true ∧ True ∧ True) (If (chB (chA c) && l.length.ble 1000 && cnd l && inU q 18446744073709551616) (If (iBne (addE O (cz (chA c))
  no h0 h1 rt l 0 i a q e) 0) (Value.bool true = Value.bool true ∧ True ∧ True) (If (iBeq 0 (c 56)) (If (chB (chA c) && (bif iBeq (addE O (cz (chA c)) no h0 h1 rt l 0 i a q e) 0 then
  insC [0, i, a, q, e] l else []).length.ble 1000) ((∃ (x : Nat), x ≤ nAdd l.length 1 ∧ (Value.int .i64 0 = Value.int .i64 (iOf (cntF 0 (List.take x (insC [0, i, a, q, e] l)))) ∧
  Value.int .i64 0 = Value.int .i64 (sumF 0 (List.take x (insC [0, i, a, q, e] l))) ∧ Value.int .i64 0 = Value.int .i64 (iOf x) ∧ Value.bool false = Value.bool false ∧ Value.bool true
  = Value.bool true ∧ Value.bool (fewB h0 h1 rt l) = Value.bool (fewB h0 h1 rt l) ∧ Value.int .i64 (addE O (cz (chA c)) no h0 h1 rt l 0 i a q e) = Value.int .i64 (addE O (cz (chA c))
  no h0 h1 rt l 0 i a q e) ∧ Value.int .i64 (IntKind.i64.wrap (iSub (bif iBeq (addE O (cz (chA c)) no h0 h1 rt l 0 i a q e) 0 then hsub 0 h0 a 0 else 0) (costO (bif iBeq (addE O (cz
  (chA c)) no h0 h1 rt l 0 i a q e) 0 then rt else 0) (iOf (bif iBeq (addE O (cz (chA c)) no h0 h1 rt l 0 i a q e) 0 then insC [0, i, a, q, e] l else []).length)))) = Value.int .i64
  (IntKind.i64.wrap (iSub (bif iBeq (addE O (cz (chA c)) no h0 h1 rt l 0 i a q e) 0 then hsub 0 h0 a 0 else 0) (costO (bif iBeq (addE O (cz (chA c)) no h0 h1 rt l 0 i a q e) 0 then rt
  else 0) (iOf (bif iBeq (addE O (cz (chA c)) no h0 h1 rt l 0 i a q e) 0 then insC [0, i, a, q, e] l else []).length)))) ∧ True) ∧ (chA c).extract 50 56 = (chA c).extract 50 56 ∧
  (Value.int .i64 (bif iBeq (addE O (cz (chA c)) no h0 h1 rt l 0 i a q e) 0 then no else 0) = Value.int .i64 (bif iBeq (addE O (cz (chA c)) no h0 h1 rt l 0 i a q e) 0 then no else 0)
  ∧ Value.int .i64 (bif iBeq (addE O (cz (chA c)) no h0 h1 rt l 0 i a q e) 0 then hsub 0 h0 a 0 else 0) = Value.int .i64 (bif iBeq (addE O (cz (chA c)) no h0 h1 rt l 0 i a q e) 0 then
  hsub 0 h0 a 0 else 0) ∧ Value.int .i64 (bif iBeq (addE O (cz (chA c)) no h0 h1 rt l 0 i a q e) 0 then hsub 0 h1 a 1 else 0) = Value.int .i64 (bif iBeq (addE O (cz (chA c)) no h0 h1
  rt l 0 i a q e) 0 then hsub 0 h1 a 1 else 0) ∧ Value.int .i64 (bif iBeq (addE O (cz (chA c)) no h0 h1 rt l 0 i a q e) 0 then rt else 0) = Value.int .i64 (bif iBeq (addE O (cz (chA
  c)) no h0 h1 rt l 0 i a q e) 0 then rt else 0)) ∧ Cont.structs [.i64, .i64, .i64, .u64, .i64] (bif iBeq (addE O (cz (chA c)) no h0 h1 rt l 0 i a q e) 0 then insC [0, i, a, q, e] l
  else []) = Cont.structs [.i64, .i64, .i64, .u64, .i64] (bif iBeq (addE O (cz (chA c)) no h0 h1 rt l 0 i a q e) 0 then insC [0, i, a, q, e] l else []) ∧ Array.mk [Value.int .i64 0,
  Value.int .i64 i, Value.int .i64 a, Value.int .u64 q, Value.int .i64 e] = Array.mk [Value.int .i64 0, Value.int .i64 i, Value.int .i64 a, Value.int .u64 q, Value.int .i64 e] ∧
  (Value.int .i64 no = Value.int .i64 no ∧ Value.int .i64 h0 = Value.int .i64 h0 ∧ Value.int .i64 h1 = Value.int .i64 h1 ∧ Value.int .i64 rt = Value.int .i64 rt) ∧ chA c = chA c ∧
  Cont.structs [.i64, .i64, .i64, .u64, .i64] l = Cont.structs [.i64, .i64, .i64, .u64, .i64] l ∧ True) ∧ ∀ (x : Nat), x ≤ nAdd l.length 1 → If (iLt (iOf x) (iOf (Cont.structs [.i64,
  .i64, .i64, .u64, .i64] (bif iBeq (addE O (cz (chA c)) no h0 h1 rt l 0 i a q e) 0 then insC [0, i, a, q, e] l else [])).n)) (If (iLe 0 (iOf x) && (iOf x).toNat.blt (bif iBeq (addE O
  (cz (chA c)) no h0 h1 rt l 0 i a q e) 0 then insC [0, i, a, q, e] l else []).length) (If ((iOf x).toNat.blt (bif iBeq (addE O (cz (chA c)) no h0 h1 rt l 0 i a q e) 0 then insC [0,
  i, a, q, e] l else []).length) (If (true && Nat.beq 5 5 && (iOf x).toNat.blt (bif iBeq (addE O (cz (chA c)) no h0 h1 rt l 0 i a q e) 0 then insC [0, i, a, q, e] l else []).length)
  (If (iBeq (((bif iBeq (addE O (cz (chA c)) no h0 h1 rt l 0 i a q e) 0 then insC [0, i, a, q, e] l else []).getD (iOf x).toNat []).getD 0 0) 0) (If (iLe 0 (iOf x) && (iOf
  x).toNat.blt (bif iBeq (addE O (cz (chA c)) no h0 h1 rt l 0 i a q e) 0 then insC [0, i, a, q, e] l else []).length) (If ((iOf x).toNat.blt (bif iBeq (addE O (cz (chA c)) no h0 h1 rt
  l 0 i a q e) 0 then insC [0, i, a, q, e] l else []).length) (If (true && Nat.beq 5 5 && (iOf x).toNat.blt (bif iBeq (addE O (cz (chA c)) no h0 h1 rt l 0 i a q e) 0 then insC [0, i,
  a, q, e] l else []).length) (If (iLe 0 (iOf x) && (iOf x).toNat.blt (bif iBeq (addE O (cz (chA c)) no h0 h1 rt l 0 i a q e) 0 then insC [0, i, a, q, e] l else []).length) (If ((iOf
  x).toNat.blt (bif iBeq (addE O (cz (chA c)) no h0 h1 rt l 0 i a q e) 0 then insC [0, i, a, q, e] l else []).length) (If (true && Nat.beq 5 5 && (iOf x).toNat.blt (bif iBeq (addE O
  (cz (chA c)) no h0 h1 rt l 0 i a q e) 0 then insC [0, i, a, q, e] l else []).length) (If (iLt (((bif iBeq (addE O (cz (chA c)) no h0 h1 rt l 0 i a q e) 0 then insC [0, i, a, q, e] l
  else []).getD (iOf x).toNat []).getD (nAdd (nAdd 0 1) 1) 0) (c 54)) (Value.bool false = Value.bool true ∧ True ∧ True) (∃ (x' : Nat), x' ≤ nAdd l.length 1 ∧ (nSub (nAdd l.length 1)
  x').succ ≤ nSub (nAdd l.length 1) x ∧ (Value.int .i64 (IntKind.i64.wrap (iAdd (iOf (cntF 0 (List.take x (insC [0, i, a, q, e] l)))) 1)) = Value.int .i64 (iOf (cntF 0 (List.take x'
  (insC [0, i, a, q, e] l)))) ∧ Value.int .i64 (IntKind.i64.wrap (iAdd (sumF 0 (List.take x (insC [0, i, a, q, e] l))) (((bif iBeq (addE O (cz (chA c)) no h0 h1 rt l 0 i a q e) 0 then
  insC [0, i, a, q, e] l else []).getD (iOf x).toNat []).getD 2 0))) = Value.int .i64 (sumF 0 (List.take x' (insC [0, i, a, q, e] l))) ∧ Value.int .i64 (IntKind.i64.wrap (iAdd (iOf x)
  1)) = Value.int .i64 (iOf x') ∧ Value.bool false = Value.bool false ∧ Value.bool true = Value.bool true ∧ Value.bool (fewB h0 h1 rt l) = Value.bool (fewB h0 h1 rt l) ∧ Value.int
  .i64 (addE O (cz (chA c)) no h0 h1 rt l 0 i a q e) = Value.int .i64 (addE O (cz (chA c)) no h0 h1 rt l 0 i a q e) ∧ Value.int .i64 (IntKind.i64.wrap (iSub (bif iBeq (addE O (cz (chA
  c)) no h0 h1 rt l 0 i a q e) 0 then hsub 0 h0 a 0 else 0) (costO (bif iBeq (addE O (cz (chA c)) no h0 h1 rt l 0 i a q e) 0 then rt else 0) (iOf (bif iBeq (addE O (cz (chA c)) no h0
  h1 rt l 0 i a q e) 0 then insC [0, i, a, q, e] l else []).length)))) = Value.int .i64 (IntKind.i64.wrap (iSub (bif iBeq (addE O (cz (chA c)) no h0 h1 rt l 0 i a q e) 0 then hsub 0
  h0 a 0 else 0) (costO (bif iBeq (addE O (cz (chA c)) no h0 h1 rt l 0 i a q e) 0 then rt else 0) (iOf (bif iBeq (addE O (cz (chA c)) no h0 h1 rt l 0 i a q e) 0 then insC [0, i, a, q,
  e] l else []).length)))) ∧ True) ∧ (chA c).extract 50 56 = (chA c).extract 50 56 ∧ (Value.int .i64 (bif iBeq (addE O (cz (chA c)) no h0 h1 rt l 0 i a q e) 0 then no else 0) =
  Value.int .i64 (bif iBeq (addE O (cz (chA c)) no h0 h1 rt l 0 i a q e) 0 then no else 0) ∧ Value.int .i64 (bif iBeq (addE O (cz (chA c)) no h0 h1 rt l 0 i a q e) 0 then hsub 0 h0 a
  0 else 0) = Value.int .i64 (bif iBeq (addE O (cz (chA c)) no h0 h1 rt l 0 i a q e) 0 then hsub 0 h0 a 0 else 0) ∧ Value.int .i64 (bif iBeq (addE O (cz (chA c)) no h0 h1 rt l 0 i a q
  e) 0 then hsub 0 h1 a 1 else 0) = Value.int .i64 (bif iBeq (addE O (cz (chA c)) no h0 h1 rt l 0 i a q e) 0 then hsub 0 h1 a 1 else 0) ∧ Value.int .i64 (bif iBeq (addE O (cz (chA c))
  no h0 h1 rt l 0 i a q e) 0 then rt else 0) = Value.int .i64 (bif iBeq (addE O (cz (chA c)) no h0 h1 rt l 0 i a q e) 0 then rt else 0)) ∧ Cont.structs [.i64, .i64, .i64, .u64, .i64]
  (bif iBeq (addE O (cz (chA c)) no h0 h1 rt l 0 i a q e) 0 then insC [0, i, a, q, e] l else []) = Cont.structs [.i64, .i64, .i64, .u64, .i64] (bif iBeq (addE O (cz (chA c)) no h0 h1
  rt l 0 i a q e) 0 then insC [0, i, a, q, e] l else []) ∧ Array.mk [Value.int .i64 0, Value.int .i64 i, Value.int .i64 a, Value.int .u64 q, Value.int .i64 e] = Array.mk [Value.int
  .i64 0, Value.int .i64 i, Value.int .i64 a, Value.int .u64 q, Value.int .i64 e] ∧ (Value.int .i64 no = Value.int .i64 no ∧ Value.int .i64 h0 = Value.int .i64 h0 ∧ Value.int .i64 h1
  = Value.int .i64 h1 ∧ Value.int .i64 rt = Value.int .i64 rt) ∧ chA c = chA c ∧ Cont.structs [.i64, .i64, .i64, .u64, .i64] l = Cont.structs [.i64, .i64, .i64, .u64, .i64] l ∧ True))
  False) False) False) False) False) False) (∃ (x' : Nat), x' ≤ nAdd l.length 1 ∧ (nSub (nAdd l.length 1) x').succ ≤ nSub (nAdd l.length 1) x ∧ (Value.int .i64 (iOf (cntF 0 (List.take
  x (insC [0, i, a, q, e] l)))) = Value.int .i64 (iOf (cntF 0 (List.take x' (insC [0, i, a, q, e] l)))) ∧ Value.int .i64 (sumF 0 (List.take x (insC [0, i, a, q, e] l))) = Value.int
  .i64 (sumF 0 (List.take x' (insC [0, i, a, q, e] l))) ∧ Value.int .i64 (IntKind.i64.wrap (iAdd (iOf x) 1)) = Value.int .i64 (iOf x') ∧ Value.bool false = Value.bool false ∧
  Value.bool true = Value.bool true ∧ Value.bool (fewB h0 h1 rt l) = Value.bool (fewB h0 h1 rt l) ∧ Value.int .i64 (addE O (cz (chA c)) no h0 h1 rt l 0 i a q e) = Value.int .i64 (addE
  O (cz (chA c)) no h0 h1 rt l 0 i a q e) ∧ Value.int .i64 (IntKind.i64.wrap (iSub (bif iBeq (addE O (cz (chA c)) no h0 h1 rt l 0 i a q e) 0 then hsub 0 h0 a 0 else 0) (costO (bif
  iBeq (addE O (cz (chA c)) no h0 h1 rt l 0 i a q e) 0 then rt else 0) (iOf (bif iBeq (addE O (cz (chA c)) no h0 h1 rt l 0 i a q e) 0 then insC [0, i, a, q, e] l else []).length)))) =
  Value.int .i64 (IntKind.i64.wrap (iSub (bif iBeq (addE O (cz (chA c)) no h0 h1 rt l 0 i a q e) 0 then hsub 0 h0 a 0 else 0) (costO (bif iBeq (addE O (cz (chA c)) no h0 h1 rt l 0 i a
  q e) 0 then rt else 0) (iOf (bif iBeq (addE O (cz (chA c)) no h0 h1 rt l 0 i a q e) 0 then insC [0, i, a, q, e] l else []).length)))) ∧ True) ∧ (chA c).extract 50 56 = (chA
  c).extract 50 56 ∧ (Value.int .i64 (bif iBeq (addE O (cz (chA c)) no h0 h1 rt l 0 i a q e) 0 then no else 0) = Value.int .i64 (bif iBeq (addE O (cz (chA c)) no h0 h1 rt l 0 i a q e)
  0 then no else 0) ∧ Value.int .i64 (bif iBeq (addE O (cz (chA c)) no h0 h1 rt l 0 i a q e) 0 then hsub 0 h0 a 0 else 0) = Value.int .i64 (bif iBeq (addE O (cz (chA c)) no h0 h1 rt l
  0 i a q e) 0 then hsub 0 h0 a 0 else 0) ∧ Value.int .i64 (bif iBeq (addE O (cz (chA c)) no h0 h1 rt l 0 i a q e) 0 then hsub 0 h1 a 1 else 0) = Value.int .i64 (bif iBeq (addE O (cz
  (chA c)) no h0 h1 rt l 0 i a q e) 0 then hsub 0 h1 a 1 else 0) ∧ Value.int .i64 (bif iBeq (addE O (cz (chA c)) no h0 h1 rt l 0 i a q e) 0 then rt else 0) = Value.int .i64 (bif iBeq
  (addE O (cz (chA c)) no h0 h1 rt l 0 i a q e) 0 then rt else 0)) ∧ Cont.structs [.i64, .i64, .i64, .u64, .i64] (bif iBeq (addE O (cz (chA c)) no h0 h1 rt l 0 i a q e) 0 then insC
  [0, i, a, q, e] l else []) = Cont.structs [.i64, .i64, .i64, .u64, .i64] (bif iBeq (addE O (cz (chA c)) no h0 h1 rt l 0 i a q e) 0 then insC [0, i, a, q, e] l else []) ∧ Array.mk
  [Value.int .i64 0, Value.int .i64 i, Value.int .i64 a, Value.int .u64 q, Value.int .i64 e] = Array.mk [Value.int .i64 0, Value.int .i64 i, Value.int .i64 a, Value.int .u64 q,
  Value.int .i64 e] ∧ (Value.int .i64 no = Value.int .i64 no ∧ Value.int .i64 h0 = Value.int .i64 h0 ∧ Value.int .i64 h1 = Value.int .i64 h1 ∧ Value.int .i64 rt = Value.int .i64 rt) ∧
  chA c = chA c ∧ Cont.structs [.i64, .i64, .i64, .u64, .i64] l = Cont.structs [.i64, .i64, .i64, .u64, .i64] l ∧ True)) False) False) False) (If (iLe (c 51) (IntKind.i64.wrap (iSub
  (bif iBeq (addE O (cz (chA c)) no h0 h1 rt l 0 i a q e) 0 then hsub 0 h0 a 0 else 0) (costO (bif iBeq (addE O (cz (chA c)) no h0 h1 rt l 0 i a q e) 0 then rt else 0) (iOf (bif iBeq
  (addE O (cz (chA c)) no h0 h1 rt l 0 i a q e) 0 then insC [0, i, a, q, e] l else []).length))))) (If (iLe (iOf (cntF 0 (List.take x (insC [0, i, a, q, e] l)))) (c 53)) (If (iLe
  (sumF 0 (List.take x (insC [0, i, a, q, e] l))) (c 55)) (If (iLe (iOf (Cont.structs [.i64, .i64, .i64, .u64, .i64] (bif iBeq (addE O (cz (chA c)) no h0 h1 rt l 0 i a q e) 0 then
  insC [0, i, a, q, e] l else [])).n) 16) (Value.bool (iBeq (iOf (bif iBeq (addE O (cz (chA c)) no h0 h1 rt l 0 i a q e) 0 then insC [0, i, a, q, e] l else []).length)
  (IntKind.i64.wrap (iAdd (iOf l.length) 1))) = Value.bool true ∧ True ∧ True) (Value.bool false = Value.bool true ∧ True ∧ True)) (Value.bool false = Value.bool true ∧ True ∧ True))
  (Value.bool false = Value.bool true ∧ True ∧ True)) (Value.bool false = Value.bool true ∧ True ∧ True))) False) ((∃ (x : Nat), x ≤ nAdd l.length 1 ∧ (Value.int .i64 0 = Value.int
  .i64 (iOf (cntF 0 (List.take x (insC [0, i, a, q, e] l)))) ∧ Value.int .i64 0 = Value.int .i64 (sumF 0 (List.take x (insC [0, i, a, q, e] l))) ∧ Value.int .i64 0 = Value.int .i64
  (iOf x) ∧ Value.bool false = Value.bool false ∧ Value.bool true = Value.bool true ∧ Value.bool (fewB h0 h1 rt l) = Value.bool (fewB h0 h1 rt l) ∧ Value.int .i64 (addE O (cz (chA c))
  no h0 h1 rt l 0 i a q e) = Value.int .i64 (addE O (cz (chA c)) no h0 h1 rt l 0 i a q e) ∧ Value.int .i64 (bif iBeq (addE O (cz (chA c)) no h0 h1 rt l 0 i a q e) 0 then hsub 0 h0 a 0
  else 0) = Value.int .i64 (bif iBeq (addE O (cz (chA c)) no h0 h1 rt l 0 i a q e) 0 then hsub 0 h0 a 0 else 0) ∧ True) ∧ (chA c).extract 50 56 = (chA c).extract 50 56 ∧ (Value.int
  .i64 (bif iBeq (addE O (cz (chA c)) no h0 h1 rt l 0 i a q e) 0 then no else 0) = Value.int .i64 (bif iBeq (addE O (cz (chA c)) no h0 h1 rt l 0 i a q e) 0 then no else 0) ∧ Value.int
  .i64 (bif iBeq (addE O (cz (chA c)) no h0 h1 rt l 0 i a q e) 0 then hsub 0 h0 a 0 else 0) = Value.int .i64 (bif iBeq (addE O (cz (chA c)) no h0 h1 rt l 0 i a q e) 0 then hsub 0 h0 a
  0 else 0) ∧ Value.int .i64 (bif iBeq (addE O (cz (chA c)) no h0 h1 rt l 0 i a q e) 0 then hsub 0 h1 a 1 else 0) = Value.int .i64 (bif iBeq (addE O (cz (chA c)) no h0 h1 rt l 0 i a q
  e) 0 then hsub 0 h1 a 1 else 0) ∧ Value.int .i64 (bif iBeq (addE O (cz (chA c)) no h0 h1 rt l 0 i a q e) 0 then rt else 0) = Value.int .i64 (bif iBeq (addE O (cz (chA c)) no h0 h1
  rt l 0 i a q e) 0 then rt else 0)) ∧ Cont.structs [.i64, .i64, .i64, .u64, .i64] (bif iBeq (addE O (cz (chA c)) no h0 h1 rt l 0 i a q e) 0 then insC [0, i, a, q, e] l else []) =
  Cont.structs [.i64, .i64, .i64, .u64, .i64] (bif iBeq (addE O (cz (chA c)) no h0 h1 rt l 0 i a q e) 0 then insC [0, i, a, q, e] l else []) ∧ Array.mk [Value.int .i64 0, Value.int
  .i64 i, Value.int .i64 a, Value.int .u64 q, Value.int .i64 e] = Array.mk [Value.int .i64 0, Value.int .i64 i, Value.int .i64 a, Value.int .u64 q, Value.int .i64 e] ∧ (Value.int .i64
  no = Value.int .i64 no ∧ Value.int .i64 h0 = Value.int .i64 h0 ∧ Value.int .i64 h1 = Value.int .i64 h1 ∧ Value.int .i64 rt = Value.int .i64 rt) ∧ chA c = chA c ∧ Cont.structs [.i64,
  .i64, .i64, .u64, .i64] l = Cont.structs [.i64, .i64, .i64, .u64, .i64] l ∧ True) ∧ ∀ (x : Nat), x ≤ nAdd l.length 1 → If (iLt (iOf x) (iOf (Cont.structs [.i64, .i64, .i64, .u64,
  .i64] (bif iBeq (addE O (cz (chA c)) no h0 h1 rt l 0 i a q e) 0 then insC [0, i, a, q, e] l else [])).n)) (If (iLe 0 (iOf x) && (iOf x).toNat.blt (bif iBeq (addE O (cz (chA c)) no
  h0 h1 rt l 0 i a q e) 0 then insC [0, i, a, q, e] l else []).length) (If ((iOf x).toNat.blt (bif iBeq (addE O (cz (chA c)) no h0 h1 rt l 0 i a q e) 0 then insC [0, i, a, q, e] l
  else []).length) (If (true && Nat.beq 5 5 && (iOf x).toNat.blt (bif iBeq (addE O (cz (chA c)) no h0 h1 rt l 0 i a q e) 0 then insC [0, i, a, q, e] l else []).length) (If (iBeq
  (((bif iBeq (addE O (cz (chA c)) no h0 h1 rt l 0 i a q e) 0 then insC [0, i, a, q, e] l else []).getD (iOf x).toNat []).getD 0 0) 0) (If (iLe 0 (iOf x) && (iOf x).toNat.blt (bif
  iBeq (addE O (cz (chA c)) no h0 h1 rt l 0 i a q e) 0 then insC [0, i, a, q, e] l else []).length) (If ((iOf x).toNat.blt (bif iBeq (addE O (cz (chA c)) no h0 h1 rt l 0 i a q e) 0
  then insC [0, i, a, q, e] l else []).length) (If (true && Nat.beq 5 5 && (iOf x).toNat.blt (bif iBeq (addE O (cz (chA c)) no h0 h1 rt l 0 i a q e) 0 then insC [0, i, a, q, e] l else
  []).length) (If (iLe 0 (iOf x) && (iOf x).toNat.blt (bif iBeq (addE O (cz (chA c)) no h0 h1 rt l 0 i a q e) 0 then insC [0, i, a, q, e] l else []).length) (If ((iOf x).toNat.blt
  (bif iBeq (addE O (cz (chA c)) no h0 h1 rt l 0 i a q e) 0 then insC [0, i, a, q, e] l else []).length) (If (true && Nat.beq 5 5 && (iOf x).toNat.blt (bif iBeq (addE O (cz (chA c))
  no h0 h1 rt l 0 i a q e) 0 then insC [0, i, a, q, e] l else []).length) (If (iLt (((bif iBeq (addE O (cz (chA c)) no h0 h1 rt l 0 i a q e) 0 then insC [0, i, a, q, e] l else
  []).getD (iOf x).toNat []).getD (nAdd (nAdd 0 1) 1) 0) (c 54)) (Value.bool false = Value.bool true ∧ True ∧ True) (∃ (x' : Nat), x' ≤ nAdd l.length 1 ∧ (nSub (nAdd l.length 1)
  x').succ ≤ nSub (nAdd l.length 1) x ∧ (Value.int .i64 (IntKind.i64.wrap (iAdd (iOf (cntF 0 (List.take x (insC [0, i, a, q, e] l)))) 1)) = Value.int .i64 (iOf (cntF 0 (List.take x'
  (insC [0, i, a, q, e] l)))) ∧ Value.int .i64 (IntKind.i64.wrap (iAdd (sumF 0 (List.take x (insC [0, i, a, q, e] l))) (((bif iBeq (addE O (cz (chA c)) no h0 h1 rt l 0 i a q e) 0 then
  insC [0, i, a, q, e] l else []).getD (iOf x).toNat []).getD 2 0))) = Value.int .i64 (sumF 0 (List.take x' (insC [0, i, a, q, e] l))) ∧ Value.int .i64 (IntKind.i64.wrap (iAdd (iOf x)
  1)) = Value.int .i64 (iOf x') ∧ Value.bool false = Value.bool false ∧ Value.bool true = Value.bool true ∧ Value.bool (fewB h0 h1 rt l) = Value.bool (fewB h0 h1 rt l) ∧ Value.int
  .i64 (addE O (cz (chA c)) no h0 h1 rt l 0 i a q e) = Value.int .i64 (addE O (cz (chA c)) no h0 h1 rt l 0 i a q e) ∧ Value.int .i64 (bif iBeq (addE O (cz (chA c)) no h0 h1 rt l 0 i a
  q e) 0 then hsub 0 h0 a 0 else 0) = Value.int .i64 (bif iBeq (addE O (cz (chA c)) no h0 h1 rt l 0 i a q e) 0 then hsub 0 h0 a 0 else 0) ∧ True) ∧ (chA c).extract 50 56 = (chA
  c).extract 50 56 ∧ (Value.int .i64 (bif iBeq (addE O (cz (chA c)) no h0 h1 rt l 0 i a q e) 0 then no else 0) = Value.int .i64 (bif iBeq (addE O (cz (chA c)) no h0 h1 rt l 0 i a q e)
  0 then no else 0) ∧ Value.int .i64 (bif iBeq (addE O (cz (chA c)) no h0 h1 rt l 0 i a q e) 0 then hsub 0 h0 a 0 else 0) = Value.int .i64 (bif iBeq (addE O (cz (chA c)) no h0 h1 rt l
  0 i a q e) 0 then hsub 0 h0 a 0 else 0) ∧ Value.int .i64 (bif iBeq (addE O (cz (chA c)) no h0 h1 rt l 0 i a q e) 0 then hsub 0 h1 a 1 else 0) = Value.int .i64 (bif iBeq (addE O (cz
  (chA c)) no h0 h1 rt l 0 i a q e) 0 then hsub 0 h1 a 1 else 0) ∧ Value.int .i64 (bif iBeq (addE O (cz (chA c)) no h0 h1 rt l 0 i a q e) 0 then rt else 0) = Value.int .i64 (bif iBeq
  (addE O (cz (chA c)) no h0 h1 rt l 0 i a q e) 0 then rt else 0)) ∧ Cont.structs [.i64, .i64, .i64, .u64, .i64] (bif iBeq (addE O (cz (chA c)) no h0 h1 rt l 0 i a q e) 0 then insC
  [0, i, a, q, e] l else []) = Cont.structs [.i64, .i64, .i64, .u64, .i64] (bif iBeq (addE O (cz (chA c)) no h0 h1 rt l 0 i a q e) 0 then insC [0, i, a, q, e] l else []) ∧ Array.mk
  [Value.int .i64 0, Value.int .i64 i, Value.int .i64 a, Value.int .u64 q, Value.int .i64 e] = Array.mk [Value.int .i64 0, Value.int .i64 i, Value.int .i64 a, Value.int .u64 q,
  Value.int .i64 e] ∧ (Value.int .i64 no = Value.int .i64 no ∧ Value.int .i64 h0 = Value.int .i64 h0 ∧ Value.int .i64 h1 = Value.int .i64 h1 ∧ Value.int .i64 rt = Value.int .i64 rt) ∧
  chA c = chA c ∧ Cont.structs [.i64, .i64, .i64, .u64, .i64] l = Cont.structs [.i64, .i64, .i64, .u64, .i64] l ∧ True)) False) False) False) False) False) False) (∃ (x' : Nat), x' ≤
  nAdd l.length 1 ∧ (nSub (nAdd l.length 1) x').succ ≤ nSub (nAdd l.length 1) x ∧ (Value.int .i64 (iOf (cntF 0 (List.take x (insC [0, i, a, q, e] l)))) = Value.int .i64 (iOf (cntF 0
  (List.take x' (insC [0, i, a, q, e] l)))) ∧ Value.int .i64 (sumF 0 (List.take x (insC [0, i, a, q, e] l))) = Value.int .i64 (sumF 0 (List.take x' (insC [0, i, a, q, e] l))) ∧
  Value.int .i64 (IntKind.i64.wrap (iAdd (iOf x) 1)) = Value.int .i64 (iOf x') ∧ Value.bool false = Value.bool false ∧ Value.bool true = Value.bool true ∧ Value.bool (fewB h0 h1 rt l)
  = Value.bool (fewB h0 h1 rt l) ∧ Value.int .i64 (addE O (cz (chA c)) no h0 h1 rt l 0 i a q e) = Value.int .i64 (addE O (cz (chA c)) no h0 h1 rt l 0 i a q e) ∧ Value.int .i64 (bif
  iBeq (addE O (cz (chA c)) no h0 h1 rt l 0 i a q e) 0 then hsub 0 h0 a 0 else 0) = Value.int .i64 (bif iBeq (addE O (cz (chA c)) no h0 h1 rt l 0 i a q e) 0 then hsub 0 h0 a 0 else 0)
  ∧ True) ∧ (chA c).extract 50 56 = (chA c).extract 50 56 ∧ (Value.int .i64 (bif iBeq (addE O (cz (chA c)) no h0 h1 rt l 0 i a q e) 0 then no else 0) = Value.int .i64 (bif iBeq (addE
  O (cz (chA c)) no h0 h1 rt l 0 i a q e) 0 then no else 0) ∧ Value.int .i64 (bif iBeq (addE O (cz (chA c)) no h0 h1 rt l 0 i a q e) 0 then hsub 0 h0 a 0 else 0) = Value.int .i64 (bif
  iBeq (addE O (cz (chA c)) no h0 h1 rt l 0 i a q e) 0 then hsub 0 h0 a 0 else 0) ∧ Value.int .i64 (bif iBeq (addE O (cz (chA c)) no h0 h1 rt l 0 i a q e) 0 then hsub 0 h1 a 1 else 0)
  = Value.int .i64 (bif iBeq (addE O (cz (chA c)) no h0 h1 rt l 0 i a q e) 0 then hsub 0 h1 a 1 else 0) ∧ Value.int .i64 (bif iBeq (addE O (cz (chA c)) no h0 h1 rt l 0 i a q e) 0 then
  rt else 0) = Value.int .i64 (bif iBeq (addE O (cz (chA c)) no h0 h1 rt l 0 i a q e) 0 then rt else 0)) ∧ Cont.structs [.i64, .i64, .i64, .u64, .i64] (bif iBeq (addE O (cz (chA c))
  no h0 h1 rt l 0 i a q e) 0 then insC [0, i, a, q, e] l else []) = Cont.structs [.i64, .i64, .i64, .u64, .i64] (bif iBeq (addE O (cz (chA c)) no h0 h1 rt l 0 i a q e) 0 then insC [0,
  i, a, q, e] l else []) ∧ Array.mk [Value.int .i64 0, Value.int .i64 i, Value.int .i64 a, Value.int .u64 q, Value.int .i64 e] = Array.mk [Value.int .i64 0, Value.int .i64 i,
  Value.int .i64 a, Value.int .u64 q, Value.int .i64 e] ∧ (Value.int .i64 no = Value.int .i64 no ∧ Value.int .i64 h0 = Value.int .i64 h0 ∧ Value.int .i64 h1 = Value.int .i64 h1 ∧
  Value.int .i64 rt = Value.int .i64 rt) ∧ chA c = chA c ∧ Cont.structs [.i64, .i64, .i64, .u64, .i64] l = Cont.structs [.i64, .i64, .i64, .u64, .i64] l ∧ True)) False) False) False)
  (If (iLe (c 51) (bif iBeq (addE O (cz (chA c)) no h0 h1 rt l 0 i a q e) 0 then hsub 0 h0 a 0 else 0)) (If (iLe (iOf (cntF 0 (List.take x (insC [0, i, a, q, e] l)))) (c 53)) (If (iLe
  (sumF 0 (List.take x (insC [0, i, a, q, e] l))) (c 55)) (If (iLe (iOf (Cont.structs [.i64, .i64, .i64, .u64, .i64] (bif iBeq (addE O (cz (chA c)) no h0 h1 rt l 0 i a q e) 0 then
  insC [0, i, a, q, e] l else [])).n) 16) (Value.bool (iBeq (iOf (bif iBeq (addE O (cz (chA c)) no h0 h1 rt l 0 i a q e) 0 then insC [0, i, a, q, e] l else []).length)
  (IntKind.i64.wrap (iAdd (iOf l.length) 1))) = Value.bool true ∧ True ∧ True) (Value.bool false = Value.bool true ∧ True ∧ True)) (Value.bool false = Value.bool true ∧ True ∧ True))
  (Value.bool false = Value.bool true ∧ True ∧ True)) (Value.bool false = Value.bool true ∧ True ∧ True))))) False) := by
 simp only [ec]
 refine Sx.if_both (fun _ => (by first | rfl | trivial)) (fun hf => ?_)
 have l20 := few_len hf
 have l1 : Nat.ble l.length 1000 = true := by rw [Nat.ble_eq]; omega
 refine Sx.if_true (by rw [hc, l1, g1, g2]; rfl) (Sx.if_both (fun _ => (by first | rfl | trivial)) (fun hE => ?_))
 have hE := iBne_ff hE
 have A := add_right hE
 have zE : iBeq (addE O c no h0 h1 rt l 0 i a q e) 0 = true := by rw [hE]; rfl
 simp only [zE, cond_true]
 have lL : (insC [0, i, a, q, e] l).length = l.length + 1 := ins_len _ _
 have AR := A.right
 have AL : c 51 ≤ freeO c (hsub 0 h0 a 0) (hsub 0 h1 a 1) rt ((insC [0, i, a, q, e] l).length : Int) 0 := A.left
 have hco := fine_coins AR.fine
 generalize insC [0, i, a, q, e] l = L at *
 have l2 : Nat.ble L.length 1000 = true := by rw [Nat.ble_eq, lL]; omega
 simp only [Sx.app, Sx.nAdd, Sx.nSub, Sx.nMul, Sx.nPow, Sx.nDiv, Sx.nMod, Sx.iAdd, Sx.iSub, Sx.iMul, Sx.iNeg, Sx.iPow, Sx.iOf]
 refine Sx.if_both (fun t => Sx.if_true (by rw [hc, l2]; rfl) ?_) (fun t => ?_)
 ·have hleft : c 51 ≤ IntKind.i64.wrap (hsub 0 h0 a 0 - costO rt L.length) := by
   unfold freeO at AL
   rw [t] at AL
   exact AL
  refine ⟨⟨0, Nat.zero_le _, ⟨rfl, rfl, rfl, (by first | rfl | trivial)⟩, (by first | rfl | trivial)⟩, fun x hx => Sx.if_both (fun h => ?_) (fun h => ?_)⟩
  ·simp only [Bool.and_eq_true, Bool.or_eq_true, Sx.iLt_t, Sx.iLt_f, Sx.iLe_t, Sx.iLe_f, Sx.iEq_t, Sx.iEq_f, Sx.iBeq_t, Sx.iBeq_f, Sx.iBne_t, Sx.iBne_f, Nat.ble_eq, Nat.beq_eq, Sx.Cont.n] at h
   have hlt : x < L.length := by omega
   have hbl : x.blt L.length = true := by rw [Nat.blt_eq]; exact hlt
   simp only [Int.toNat_natCast]
   have hix : (iLe 0 (x : Int) && x.blt L.length) = true := by simp only [Bool.and_eq_true, Bool.or_eq_true, Sx.iLt_t, Sx.iLt_f, Sx.iLe_t, Sx.iLe_f, Sx.iEq_t, Sx.iEq_f, Sx.iBeq_t, Sx.iBeq_f, Sx.iBne_t, Sx.iBne_f, Nat.ble_eq, Nat.beq_eq, Sx.Cont.n, hbl, and_true]; omega
   have hx5 : (true && Nat.beq 5 5 && x.blt L.length) = true := by rw [hbl]; rfl
   have hfn := AR.fine _ (List.getElem_mem hlt)
   rw [← getD_at hlt] at hfn
   have tc := take_cnt 0 hlt
   have ts := take_sum 0 hlt
   have bd := take_bd 0 hco x (by omega)
   have bm : 1 ≤ amt (L.getD x []) ∧ amt (L.getD x []) ≤ 1125899906842624 := hfn.1.2.2.1
   refine Sx.if_true hix (Sx.if_true hbl (Sx.if_true hx5 (Sx.if_both (fun t => Sx.if_true hix (Sx.if_true hbl (Sx.if_true hx5 (Sx.if_true hix (Sx.if_true hbl (Sx.if_true hx5 (Sx.if_false ?_ ?_)))))))  (fun t => ?_))))
   ·have t : fr (L.getD x []) = 0 := by rw [iBeq_t] at t; exact t
    have hl := hfn.2
    rw [t] at hl
    have hl : c 54 ≤ amt (L.getD x []) := hl
    show iLt (amt (L.getD x [])) (c 54) = false
    rw [iLt_f]; omega
   ·have t : fr (L.getD x []) = 0 := by rw [iBeq_t] at t; exact t
    rw [if_pos t] at tc ts
    refine ⟨x + 1, by omega, by omega, ⟨?_, ?_, by rw [wrap_succ (by omega)], (by first | rfl | trivial)⟩, (by first | rfl | trivial)⟩
    ·rw [tc, wrap_in (by omega) (by omega)]; rfl
    ·rw [ts, show (L.getD x []).getD 2 0 = amt (L.getD x []) from rfl, wrap_in (by omega) (by omega)]
   ·have t : ¬ fr (L.getD x []) = 0 := by rw [iBeq_f] at t; exact t
    rw [if_neg t] at tc ts
    exact ⟨x + 1, by omega, by omega, ⟨by rw [tc]; rfl, by rw [ts, Int.add_zero], by rw [wrap_succ (by omega)], (by first | rfl | trivial)⟩, (by first | rfl | trivial)⟩
  ·simp only [Bool.and_eq_true, Bool.or_eq_true, Sx.iLt_t, Sx.iLt_f, Sx.iLe_t, Sx.iLe_f, Sx.iEq_t, Sx.iEq_f, Sx.iBeq_t, Sx.iBeq_f, Sx.iBne_t, Sx.iBne_f, Nat.ble_eq, Nat.beq_eq, Sx.Cont.n] at h
   have hx1 : x = L.length := by omega
   have tk : L.take x = L := by rw [hx1]; exact List.take_of_length_le (Nat.le_refl _)
   rw [tk]
   have nn := AR.n0
   have nss := AR.s0
   have n16 := AR.len
   refine Sx.if_true (by rw [iLe_t]; exact hleft) (Sx.if_true (by rw [iLe_t]; exact nn) (Sx.if_true (by rw [iLe_t]; exact nss) (Sx.if_true (by simp only [Bool.and_eq_true, Bool.or_eq_true, Sx.iLt_t, Sx.iLt_f, Sx.iLe_t, Sx.iLe_f, Sx.iEq_t, Sx.iEq_f, Sx.iBeq_t, Sx.iBeq_f, Sx.iBne_t, Sx.iBne_f, Nat.ble_eq, Nat.beq_eq, Sx.Cont.n]; omega) ⟨?_, (by first | rfl | trivial)⟩)))
   rw [show iBeq (L.length : Int) (IntKind.i64.wrap ((l.length : Int) + 1)) = true by rw [iBeq_t, wrap_in (by omega) (by omega), lL]; omega]
 ·have hleft : c 51 ≤ hsub 0 h0 a 0 := by
   unfold freeO at AL
   rw [t] at AL
   exact AL
  refine ⟨⟨0, Nat.zero_le _, ⟨rfl, rfl, rfl, (by first | rfl | trivial)⟩, (by first | rfl | trivial)⟩, fun x hx => Sx.if_both (fun h => ?_) (fun h => ?_)⟩
  ·simp only [Bool.and_eq_true, Bool.or_eq_true, Sx.iLt_t, Sx.iLt_f, Sx.iLe_t, Sx.iLe_f, Sx.iEq_t, Sx.iEq_f, Sx.iBeq_t, Sx.iBeq_f, Sx.iBne_t, Sx.iBne_f, Nat.ble_eq, Nat.beq_eq, Sx.Cont.n] at h
   have hlt : x < L.length := by omega
   have hbl : x.blt L.length = true := by rw [Nat.blt_eq]; exact hlt
   simp only [Int.toNat_natCast]
   have hix : (iLe 0 (x : Int) && x.blt L.length) = true := by simp only [Bool.and_eq_true, Bool.or_eq_true, Sx.iLt_t, Sx.iLt_f, Sx.iLe_t, Sx.iLe_f, Sx.iEq_t, Sx.iEq_f, Sx.iBeq_t, Sx.iBeq_f, Sx.iBne_t, Sx.iBne_f, Nat.ble_eq, Nat.beq_eq, Sx.Cont.n, hbl, and_true]; omega
   have hx5 : (true && Nat.beq 5 5 && x.blt L.length) = true := by rw [hbl]; rfl
   have hfn := AR.fine _ (List.getElem_mem hlt)
   rw [← getD_at hlt] at hfn
   have tc := take_cnt 0 hlt
   have ts := take_sum 0 hlt
   have bd := take_bd 0 hco x (by omega)
   have bm : 1 ≤ amt (L.getD x []) ∧ amt (L.getD x []) ≤ 1125899906842624 := hfn.1.2.2.1
   refine Sx.if_true hix (Sx.if_true hbl (Sx.if_true hx5 (Sx.if_both (fun t => Sx.if_true hix (Sx.if_true hbl (Sx.if_true hx5 (Sx.if_true hix (Sx.if_true hbl (Sx.if_true hx5 (Sx.if_false ?_ ?_)))))))  (fun t => ?_))))
   ·have t : fr (L.getD x []) = 0 := by rw [iBeq_t] at t; exact t
    have hl := hfn.2
    rw [t] at hl
    have hl : c 54 ≤ amt (L.getD x []) := hl
    show iLt (amt (L.getD x [])) (c 54) = false
    rw [iLt_f]; omega
   ·have t : fr (L.getD x []) = 0 := by rw [iBeq_t] at t; exact t
    rw [if_pos t] at tc ts
    refine ⟨x + 1, by omega, by omega, ⟨?_, ?_, by rw [wrap_succ (by omega)], (by first | rfl | trivial)⟩, (by first | rfl | trivial)⟩
    ·rw [tc, wrap_in (by omega) (by omega)]; rfl
    ·rw [ts, show (L.getD x []).getD 2 0 = amt (L.getD x []) from rfl, wrap_in (by omega) (by omega)]
   ·have t : ¬ fr (L.getD x []) = 0 := by rw [iBeq_f] at t; exact t
    rw [if_neg t] at tc ts
    exact ⟨x + 1, by omega, by omega, ⟨by rw [tc]; rfl, by rw [ts, Int.add_zero], by rw [wrap_succ (by omega)], (by first | rfl | trivial)⟩, (by first | rfl | trivial)⟩
  ·simp only [Bool.and_eq_true, Bool.or_eq_true, Sx.iLt_t, Sx.iLt_f, Sx.iLe_t, Sx.iLe_f, Sx.iEq_t, Sx.iEq_f, Sx.iBeq_t, Sx.iBeq_f, Sx.iBne_t, Sx.iBne_f, Nat.ble_eq, Nat.beq_eq, Sx.Cont.n] at h
   have hx1 : x = L.length := by omega
   have tk : L.take x = L := by rw [hx1]; exact List.take_of_length_le (Nat.le_refl _)
   rw [tk]
   have nn := AR.n0
   have nss := AR.s0
   have n16 := AR.len
   refine Sx.if_true (by rw [iLe_t]; exact hleft) (Sx.if_true (by rw [iLe_t]; exact nn) (Sx.if_true (by rw [iLe_t]; exact nss) (Sx.if_true (by simp only [Bool.and_eq_true, Bool.or_eq_true, Sx.iLt_t, Sx.iLt_f, Sx.iLe_t, Sx.iLe_f, Sx.iEq_t, Sx.iEq_f, Sx.iBeq_t, Sx.iBeq_f, Sx.iBne_t, Sx.iBne_f, Nat.ble_eq, Nat.beq_eq, Sx.Cont.n]; omega) ⟨?_, (by first | rfl | trivial)⟩)))
   rw [show iBeq (L.length : Int) (IntKind.i64.wrap ((l.length : Int) + 1)) = true by rw [iBeq_t, wrap_in (by omega) (by omega), lL]; omega]
theorem wpc_sasks0 (O : OO) (Y : OY) (c : Nat → Int) (no h0 h1 rt : Int) (l : List (List Int)) (i a q e : Int) (F : FO O) (hy : Y = yO O) (hc : chB (chA c) = true) (g0 : Nat.ble l.length 9223372036854775807 = true) (g1 : cnd l = true) (g2 : inU q 18446744073709551616 = true) (ec : cz (chA c) = c) : wpcI Try.prog (spS21 O Y) Try.f4.ntmps [⟨Nat, [3, 4, 5, 6, 7, 8, 9, 10, 11, 12], [], fun B j => [(13, .v (.int .i64 (cntF 0 ((insC [0, i, a, q, e] l).take j) : Nat))), (14, .v (.int .i64 (sumF 0 ((insC [0, i, a, q, e] l).take j)))), (15, .v (.int .i64 (j : Int)))], fun B j => [], fun j => j ≤ l.length + 1, fun j => l.length + 1 - j, 0⟩] (bodyOf Try.f4) 0 64 (envP (mks [.v, .agg [.v, .v, .v, .roS [.i64, .i64, .i64, .u64, .i64], .v], .v] [.v (.agg (chA c)), .node [.v (.int .i64 no), .v (.int .i64 h0), .v (.int .i64 h1), .structs l, .v (.int .i64 rt)], .v (.agg ⟨[.int .i64 0, .int .i64 i, .int .i64 a, .int .u64 q, .int .i64 e]⟩)] 0).1 0) (mks [.v, .agg [.v, .v, .v, .roS [.i64, .i64, .i64, .u64, .i64], .v], .v] [.v (.agg (chA c)), .node [.v (.int .i64 no), .v (.int .i64 h0), .v (.int .i64 h1), .structs l, .v (.int .i64 rt)], .v (.agg ⟨[.int .i64 0, .int .i64 i, .int .i64 a, .int .u64 q, .int .i64 e]⟩)] 0).2 (retP Try.prog Try.f4.results.toList 12 (⟨[.v (.bool true)], []⟩ : Post)) :=
 Eq.mpr (by kernel_rfl) (vc_sasks0 O Y c no h0 h1 rt l i a q e F hy hc g0 g1 g2 ec)
theorem ok_sasks0 (I : Sx.Interp) (O : OO) (hO : O = oo) (Y : OY) (hY : Y = yO O) : Sx.SpecOK I Try.prog 4 (pspec [.v, .agg [.v, .v, .v, .roS [.i64, .i64, .i64, .u64, .i64], .v], .v] false (g_sasks0 O Y)) := by
 refine spec_patI (spS21_ok I O hO Y hY) (by kernel_rfl) (fun ds => match ds with | [.v (.agg ch), .node [.v (.int .i64 no), .v (.int .i64 h0), .v (.int .i64 h1), .structs l, .v (.int .i64 rt)], .v (.agg ⟨[.int .i64 0, .int .i64 i, .int .i64 a, .int .u64 q, .int .i64 e]⟩)] => [⟨Nat, [3, 4, 5, 6, 7, 8, 9, 10, 11, 12], [], fun B j => [(13, .v (.int .i64 (cntF 0 ((insC [0, i, a, q, e] l).take j) : Nat))), (14, .v (.int .i64 (sumF 0 ((insC [0, i, a, q, e] l).take j)))), (15, .v (.int .i64 (j : Int)))], fun B j => [], fun j => j ≤ l.length + 1, fun j => l.length + 1 - j, 0⟩] | _ => []) Try.func4 (by kernel_rfl) (by kernel_rfl) rfl Try.ntmps4 (by decide) ?_ ?_
 ·intro ds p bs F h
  unfold g_sasks0 at h
  split at h
  ·simp only [Option.some.injEq, Prod.mk.injEq] at h
   obtain ⟨_, _, rfl⟩ := h
   kernel_rfl
  ·cases h
 ·intro ds bs F hl h
  unfold g_sasks0 at h
  split at h
  ·rename_i ch no h0 h1 l rt i a q e
   simp only [Option.some.injEq, Prod.mk.injEq, Bool.and_eq_true] at h
   obtain ⟨⟨⟨⟨hc, g0⟩, g1⟩, g2⟩, _, rfl⟩ := h
   obtain ⟨c, ec, rfl⟩ : ∃ c, cz ch = c ∧ ch = chA c := ⟨_, rfl, chB_eq hc⟩
   simp only [ec]
   exact wpc_sasks0 O Y c no h0 h1 rt l i a q e (fo_oo O hO) hY hc g0 g1 g2 (ec)
  ·cases h
def g_sasks1 (O : OO) (Y : OY) (ds : List Dt) : Option (Bool × List Bool × (List Bool → Post)) := match ds with
 | [.v (.agg ch), .node [.v (.int .i64 no), .v (.int .i64 h0), .v (.int .i64 h1), .structs l, .v (.int .i64 rt)], .v (.agg ⟨[.int .i64 1, .int .i64 i, .int .i64 a, .int .u64 q, .int .i64 e]⟩)] => some ((chB ch) && (Nat.ble l.length 9223372036854775807) && (cnd l) && (inU q 18446744073709551616), [], fun _ => ⟨[.v (.bool true)], []⟩)
 | _ => none
set_option maxHeartbeats 4000000 in
theorem vc_sasks1 (O : OO) (Y : OY) (c : Nat → Int) (no h0 h1 rt : Int) (l : List (List Int)) (i a q e : Int) (F : FO O) (hy : Y = yO O) (hc : chB (chA c) = true) (g0 : Nat.ble l.length 9223372036854775807 = true) (g1 : cnd l = true) (g2 : inU q 18446744073709551616 = true) (ec : cz (chA c) = c) :
 If (!fewB h0 h1 rt l) (Value.bool true = Value.bool true ∧ True ∧ True) (If (chB (chA c) && l.length.ble 1000 && cnd l && inU q 18446744073709551616) (If (iBne (addE O (cz (chA c))
  no h0 h1 rt l 1 i a q e) 0) (Value.bool true = Value.bool true ∧ True ∧ True) (If (iBeq 1 (c 56)) (If (chB (chA c) && (bif iBeq (addE O (cz (chA c)) no h0 h1 rt l 1 i a q e) 0 then
  insC [1, i, a, q, e] l else []).length.ble 1000) ((∃ (x : Nat), x ≤ nAdd l.length 1 ∧ (Value.int .i64 0 = Value.int .i64 (iOf (cntF 1 (List.take x (insC [1, i, a, q, e] l)))) ∧
  Value.int .i64 0 = Value.int .i64 (sumF 1 (List.take x (insC [1, i, a, q, e] l))) ∧ Value.int .i64 0 = Value.int .i64 (iOf x) ∧ Value.bool false = Value.bool false ∧ Value.bool true
  = Value.bool true ∧ Value.bool (fewB h0 h1 rt l) = Value.bool (fewB h0 h1 rt l) ∧ Value.int .i64 (addE O (cz (chA c)) no h0 h1 rt l 1 i a q e) = Value.int .i64 (addE O (cz (chA c))
  no h0 h1 rt l 1 i a q e) ∧ Value.int .i64 (IntKind.i64.wrap (iSub (bif iBeq (addE O (cz (chA c)) no h0 h1 rt l 1 i a q e) 0 then hsub 1 h1 a 1 else 0) (costO (bif iBeq (addE O (cz
  (chA c)) no h0 h1 rt l 1 i a q e) 0 then rt else 0) (iOf (bif iBeq (addE O (cz (chA c)) no h0 h1 rt l 1 i a q e) 0 then insC [1, i, a, q, e] l else []).length)))) = Value.int .i64
  (IntKind.i64.wrap (iSub (bif iBeq (addE O (cz (chA c)) no h0 h1 rt l 1 i a q e) 0 then hsub 1 h1 a 1 else 0) (costO (bif iBeq (addE O (cz (chA c)) no h0 h1 rt l 1 i a q e) 0 then rt
  else 0) (iOf (bif iBeq (addE O (cz (chA c)) no h0 h1 rt l 1 i a q e) 0 then insC [1, i, a, q, e] l else []).length)))) ∧ True) ∧ (chA c).extract 44 50 = (chA c).extract 44 50 ∧
  (Value.int .i64 (bif iBeq (addE O (cz (chA c)) no h0 h1 rt l 1 i a q e) 0 then no else 0) = Value.int .i64 (bif iBeq (addE O (cz (chA c)) no h0 h1 rt l 1 i a q e) 0 then no else 0)
  ∧ Value.int .i64 (bif iBeq (addE O (cz (chA c)) no h0 h1 rt l 1 i a q e) 0 then hsub 1 h0 a 0 else 0) = Value.int .i64 (bif iBeq (addE O (cz (chA c)) no h0 h1 rt l 1 i a q e) 0 then
  hsub 1 h0 a 0 else 0) ∧ Value.int .i64 (bif iBeq (addE O (cz (chA c)) no h0 h1 rt l 1 i a q e) 0 then hsub 1 h1 a 1 else 0) = Value.int .i64 (bif iBeq (addE O (cz (chA c)) no h0 h1
  rt l 1 i a q e) 0 then hsub 1 h1 a 1 else 0) ∧ Value.int .i64 (bif iBeq (addE O (cz (chA c)) no h0 h1 rt l 1 i a q e) 0 then rt else 0) = Value.int .i64 (bif iBeq (addE O (cz (chA
  c)) no h0 h1 rt l 1 i a q e) 0 then rt else 0)) ∧ Cont.structs [.i64, .i64, .i64, .u64, .i64] (bif iBeq (addE O (cz (chA c)) no h0 h1 rt l 1 i a q e) 0 then insC [1, i, a, q, e] l
  else []) = Cont.structs [.i64, .i64, .i64, .u64, .i64] (bif iBeq (addE O (cz (chA c)) no h0 h1 rt l 1 i a q e) 0 then insC [1, i, a, q, e] l else []) ∧ Array.mk [Value.int .i64 1,
  Value.int .i64 i, Value.int .i64 a, Value.int .u64 q, Value.int .i64 e] = Array.mk [Value.int .i64 1, Value.int .i64 i, Value.int .i64 a, Value.int .u64 q, Value.int .i64 e] ∧
  (Value.int .i64 no = Value.int .i64 no ∧ Value.int .i64 h0 = Value.int .i64 h0 ∧ Value.int .i64 h1 = Value.int .i64 h1 ∧ Value.int .i64 rt = Value.int .i64 rt) ∧ chA c = chA c ∧
  Cont.structs [.i64, .i64, .i64, .u64, .i64] l = Cont.structs [.i64, .i64, .i64, .u64, .i64] l ∧ True) ∧ ∀ (x : Nat), x ≤ nAdd l.length 1 → If (iLt (iOf x) (iOf (Cont.structs [.i64,
  .i64, .i64, .u64, .i64] (bif iBeq (addE O (cz (chA c)) no h0 h1 rt l 1 i a q e) 0 then insC [1, i, a, q, e] l else [])).n)) (If (iLe 0 (iOf x) && (iOf x).toNat.blt (bif iBeq (addE O
  (cz (chA c)) no h0 h1 rt l 1 i a q e) 0 then insC [1, i, a, q, e] l else []).length) (If ((iOf x).toNat.blt (bif iBeq (addE O (cz (chA c)) no h0 h1 rt l 1 i a q e) 0 then insC [1,
  i, a, q, e] l else []).length) (If (true && Nat.beq 5 5 && (iOf x).toNat.blt (bif iBeq (addE O (cz (chA c)) no h0 h1 rt l 1 i a q e) 0 then insC [1, i, a, q, e] l else []).length)
  (If (iBeq (((bif iBeq (addE O (cz (chA c)) no h0 h1 rt l 1 i a q e) 0 then insC [1, i, a, q, e] l else []).getD (iOf x).toNat []).getD 0 0) 1) (If (iLe 0 (iOf x) && (iOf
  x).toNat.blt (bif iBeq (addE O (cz (chA c)) no h0 h1 rt l 1 i a q e) 0 then insC [1, i, a, q, e] l else []).length) (If ((iOf x).toNat.blt (bif iBeq (addE O (cz (chA c)) no h0 h1 rt
  l 1 i a q e) 0 then insC [1, i, a, q, e] l else []).length) (If (true && Nat.beq 5 5 && (iOf x).toNat.blt (bif iBeq (addE O (cz (chA c)) no h0 h1 rt l 1 i a q e) 0 then insC [1, i,
  a, q, e] l else []).length) (If (iLe 0 (iOf x) && (iOf x).toNat.blt (bif iBeq (addE O (cz (chA c)) no h0 h1 rt l 1 i a q e) 0 then insC [1, i, a, q, e] l else []).length) (If ((iOf
  x).toNat.blt (bif iBeq (addE O (cz (chA c)) no h0 h1 rt l 1 i a q e) 0 then insC [1, i, a, q, e] l else []).length) (If (true && Nat.beq 5 5 && (iOf x).toNat.blt (bif iBeq (addE O
  (cz (chA c)) no h0 h1 rt l 1 i a q e) 0 then insC [1, i, a, q, e] l else []).length) (If (iLt (((bif iBeq (addE O (cz (chA c)) no h0 h1 rt l 1 i a q e) 0 then insC [1, i, a, q, e] l
  else []).getD (iOf x).toNat []).getD (nAdd (nAdd 0 1) 1) 0) (c 48)) (Value.bool false = Value.bool true ∧ True ∧ True) (∃ (x' : Nat), x' ≤ nAdd l.length 1 ∧ (nSub (nAdd l.length 1)
  x').succ ≤ nSub (nAdd l.length 1) x ∧ (Value.int .i64 (IntKind.i64.wrap (iAdd (iOf (cntF 1 (List.take x (insC [1, i, a, q, e] l)))) 1)) = Value.int .i64 (iOf (cntF 1 (List.take x'
  (insC [1, i, a, q, e] l)))) ∧ Value.int .i64 (IntKind.i64.wrap (iAdd (sumF 1 (List.take x (insC [1, i, a, q, e] l))) (((bif iBeq (addE O (cz (chA c)) no h0 h1 rt l 1 i a q e) 0 then
  insC [1, i, a, q, e] l else []).getD (iOf x).toNat []).getD 2 0))) = Value.int .i64 (sumF 1 (List.take x' (insC [1, i, a, q, e] l))) ∧ Value.int .i64 (IntKind.i64.wrap (iAdd (iOf x)
  1)) = Value.int .i64 (iOf x') ∧ Value.bool false = Value.bool false ∧ Value.bool true = Value.bool true ∧ Value.bool (fewB h0 h1 rt l) = Value.bool (fewB h0 h1 rt l) ∧ Value.int
  .i64 (addE O (cz (chA c)) no h0 h1 rt l 1 i a q e) = Value.int .i64 (addE O (cz (chA c)) no h0 h1 rt l 1 i a q e) ∧ Value.int .i64 (IntKind.i64.wrap (iSub (bif iBeq (addE O (cz (chA
  c)) no h0 h1 rt l 1 i a q e) 0 then hsub 1 h1 a 1 else 0) (costO (bif iBeq (addE O (cz (chA c)) no h0 h1 rt l 1 i a q e) 0 then rt else 0) (iOf (bif iBeq (addE O (cz (chA c)) no h0
  h1 rt l 1 i a q e) 0 then insC [1, i, a, q, e] l else []).length)))) = Value.int .i64 (IntKind.i64.wrap (iSub (bif iBeq (addE O (cz (chA c)) no h0 h1 rt l 1 i a q e) 0 then hsub 1
  h1 a 1 else 0) (costO (bif iBeq (addE O (cz (chA c)) no h0 h1 rt l 1 i a q e) 0 then rt else 0) (iOf (bif iBeq (addE O (cz (chA c)) no h0 h1 rt l 1 i a q e) 0 then insC [1, i, a, q,
  e] l else []).length)))) ∧ True) ∧ (chA c).extract 44 50 = (chA c).extract 44 50 ∧ (Value.int .i64 (bif iBeq (addE O (cz (chA c)) no h0 h1 rt l 1 i a q e) 0 then no else 0) =
  Value.int .i64 (bif iBeq (addE O (cz (chA c)) no h0 h1 rt l 1 i a q e) 0 then no else 0) ∧ Value.int .i64 (bif iBeq (addE O (cz (chA c)) no h0 h1 rt l 1 i a q e) 0 then hsub 1 h0 a
  0 else 0) = Value.int .i64 (bif iBeq (addE O (cz (chA c)) no h0 h1 rt l 1 i a q e) 0 then hsub 1 h0 a 0 else 0) ∧ Value.int .i64 (bif iBeq (addE O (cz (chA c)) no h0 h1 rt l 1 i a q
  e) 0 then hsub 1 h1 a 1 else 0) = Value.int .i64 (bif iBeq (addE O (cz (chA c)) no h0 h1 rt l 1 i a q e) 0 then hsub 1 h1 a 1 else 0) ∧ Value.int .i64 (bif iBeq (addE O (cz (chA c))
  no h0 h1 rt l 1 i a q e) 0 then rt else 0) = Value.int .i64 (bif iBeq (addE O (cz (chA c)) no h0 h1 rt l 1 i a q e) 0 then rt else 0)) ∧ Cont.structs [.i64, .i64, .i64, .u64, .i64]
  (bif iBeq (addE O (cz (chA c)) no h0 h1 rt l 1 i a q e) 0 then insC [1, i, a, q, e] l else []) = Cont.structs [.i64, .i64, .i64, .u64, .i64] (bif iBeq (addE O (cz (chA c)) no h0 h1
  rt l 1 i a q e) 0 then insC [1, i, a, q, e] l else []) ∧ Array.mk [Value.int .i64 1, Value.int .i64 i, Value.int .i64 a, Value.int .u64 q, Value.int .i64 e] = Array.mk [Value.int
  .i64 1, Value.int .i64 i, Value.int .i64 a, Value.int .u64 q, Value.int .i64 e] ∧ (Value.int .i64 no = Value.int .i64 no ∧ Value.int .i64 h0 = Value.int .i64 h0 ∧ Value.int .i64 h1
  = Value.int .i64 h1 ∧ Value.int .i64 rt = Value.int .i64 rt) ∧ chA c = chA c ∧ Cont.structs [.i64, .i64, .i64, .u64, .i64] l = Cont.structs [.i64, .i64, .i64, .u64, .i64] l ∧ True))
  False) False) False) False) False) False) (∃ (x' : Nat), x' ≤ nAdd l.length 1 ∧ (nSub (nAdd l.length 1) x').succ ≤ nSub (nAdd l.length 1) x ∧ (Value.int .i64 (iOf (cntF 1 (List.take
  x (insC [1, i, a, q, e] l)))) = Value.int .i64 (iOf (cntF 1 (List.take x' (insC [1, i, a, q, e] l)))) ∧ Value.int .i64 (sumF 1 (List.take x (insC [1, i, a, q, e] l))) = Value.int
  .i64 (sumF 1 (List.take x' (insC [1, i, a, q, e] l))) ∧ Value.int .i64 (IntKind.i64.wrap (iAdd (iOf x) 1)) = Value.int .i64 (iOf x') ∧ Value.bool false = Value.bool false ∧
  Value.bool true = Value.bool true ∧ Value.bool (fewB h0 h1 rt l) = Value.bool (fewB h0 h1 rt l) ∧ Value.int .i64 (addE O (cz (chA c)) no h0 h1 rt l 1 i a q e) = Value.int .i64 (addE
  O (cz (chA c)) no h0 h1 rt l 1 i a q e) ∧ Value.int .i64 (IntKind.i64.wrap (iSub (bif iBeq (addE O (cz (chA c)) no h0 h1 rt l 1 i a q e) 0 then hsub 1 h1 a 1 else 0) (costO (bif
  iBeq (addE O (cz (chA c)) no h0 h1 rt l 1 i a q e) 0 then rt else 0) (iOf (bif iBeq (addE O (cz (chA c)) no h0 h1 rt l 1 i a q e) 0 then insC [1, i, a, q, e] l else []).length)))) =
  Value.int .i64 (IntKind.i64.wrap (iSub (bif iBeq (addE O (cz (chA c)) no h0 h1 rt l 1 i a q e) 0 then hsub 1 h1 a 1 else 0) (costO (bif iBeq (addE O (cz (chA c)) no h0 h1 rt l 1 i a
  q e) 0 then rt else 0) (iOf (bif iBeq (addE O (cz (chA c)) no h0 h1 rt l 1 i a q e) 0 then insC [1, i, a, q, e] l else []).length)))) ∧ True) ∧ (chA c).extract 44 50 = (chA
  c).extract 44 50 ∧ (Value.int .i64 (bif iBeq (addE O (cz (chA c)) no h0 h1 rt l 1 i a q e) 0 then no else 0) = Value.int .i64 (bif iBeq (addE O (cz (chA c)) no h0 h1 rt l 1 i a q e)
  0 then no else 0) ∧ Value.int .i64 (bif iBeq (addE O (cz (chA c)) no h0 h1 rt l 1 i a q e) 0 then hsub 1 h0 a 0 else 0) = Value.int .i64 (bif iBeq (addE O (cz (chA c)) no h0 h1 rt l
  1 i a q e) 0 then hsub 1 h0 a 0 else 0) ∧ Value.int .i64 (bif iBeq (addE O (cz (chA c)) no h0 h1 rt l 1 i a q e) 0 then hsub 1 h1 a 1 else 0) = Value.int .i64 (bif iBeq (addE O (cz
  (chA c)) no h0 h1 rt l 1 i a q e) 0 then hsub 1 h1 a 1 else 0) ∧ Value.int .i64 (bif iBeq (addE O (cz (chA c)) no h0 h1 rt l 1 i a q e) 0 then rt else 0) = Value.int .i64 (bif iBeq
  (addE O (cz (chA c)) no h0 h1 rt l 1 i a q e) 0 then rt else 0)) ∧ Cont.structs [.i64, .i64, .i64, .u64, .i64] (bif iBeq (addE O (cz (chA c)) no h0 h1 rt l 1 i a q e) 0 then insC
  [1, i, a, q, e] l else []) = Cont.structs [.i64, .i64, .i64, .u64, .i64] (bif iBeq (addE O (cz (chA c)) no h0 h1 rt l 1 i a q e) 0 then insC [1, i, a, q, e] l else []) ∧ Array.mk
  [Value.int .i64 1, Value.int .i64 i, Value.int .i64 a, Value.int .u64 q, Value.int .i64 e] = Array.mk [Value.int .i64 1, Value.int .i64 i, Value.int .i64 a, Value.int .u64 q,
  Value.int .i64 e] ∧ (Value.int .i64 no = Value.int .i64 no ∧ Value.int .i64 h0 = Value.int .i64 h0 ∧ Value.int .i64 h1 = Value.int .i64 h1 ∧ Value.int .i64 rt = Value.int .i64 rt) ∧
  chA c = chA c ∧ Cont.structs [.i64, .i64, .i64, .u64, .i64] l = Cont.structs [.i64, .i64, .i64, .u64, .i64] l ∧ True)) False) False) False) (If (iLe (c 45) (IntKind.i64.wrap (iSub
  (bif iBeq (addE O (cz (chA c)) no h0 h1 rt l 1 i a q e) 0 then hsub 1 h1 a 1 else 0) (costO (bif iBeq (addE O (cz (chA c)) no h0 h1 rt l 1 i a q e) 0 then rt else 0) (iOf (bif iBeq
  (addE O (cz (chA c)) no h0 h1 rt l 1 i a q e) 0 then insC [1, i, a, q, e] l else []).length))))) (If (iLe (iOf (cntF 1 (List.take x (insC [1, i, a, q, e] l)))) (c 47)) (If (iLe
  (sumF 1 (List.take x (insC [1, i, a, q, e] l))) (c 49)) (If (iLe (iOf (Cont.structs [.i64, .i64, .i64, .u64, .i64] (bif iBeq (addE O (cz (chA c)) no h0 h1 rt l 1 i a q e) 0 then
  insC [1, i, a, q, e] l else [])).n) 16) (Value.bool (iBeq (iOf (bif iBeq (addE O (cz (chA c)) no h0 h1 rt l 1 i a q e) 0 then insC [1, i, a, q, e] l else []).length)
  (IntKind.i64.wrap (iAdd (iOf l.length) 1))) = Value.bool true ∧ True ∧ True) (Value.bool false = Value.bool true ∧ True ∧ True)) (Value.bool false = Value.bool true ∧ True ∧ True))
  (Value.bool false = Value.bool true ∧ True ∧ True)) (Value.bool false = Value.bool true ∧ True ∧ True))) False) ((∃ (x : Nat), x ≤ nAdd l.length 1 ∧ (Value.int .i64 0 = Value.int
  .i64 (iOf (cntF 1 (List.take x (insC [1, i, a, q, e] l)))) ∧ Value.int .i64 0 = Value.int .i64 (sumF 1 (List.take x (insC [1, i, a, q, e] l))) ∧ Value.int .i64 0 = Value.int .i64
  (iOf x) ∧ Value.bool false = Value.bool false ∧ Value.bool true = Value.bool true ∧ Value.bool (fewB h0 h1 rt l) = Value.bool (fewB h0 h1 rt l) ∧ Value.int .i64 (addE O (cz (chA c))
  no h0 h1 rt l 1 i a q e) = Value.int .i64 (addE O (cz (chA c)) no h0 h1 rt l 1 i a q e) ∧ Value.int .i64 (bif iBeq (addE O (cz (chA c)) no h0 h1 rt l 1 i a q e) 0 then hsub 1 h1 a 1
  else 0) = Value.int .i64 (bif iBeq (addE O (cz (chA c)) no h0 h1 rt l 1 i a q e) 0 then hsub 1 h1 a 1 else 0) ∧ True) ∧ (chA c).extract 44 50 = (chA c).extract 44 50 ∧ (Value.int
  .i64 (bif iBeq (addE O (cz (chA c)) no h0 h1 rt l 1 i a q e) 0 then no else 0) = Value.int .i64 (bif iBeq (addE O (cz (chA c)) no h0 h1 rt l 1 i a q e) 0 then no else 0) ∧ Value.int
  .i64 (bif iBeq (addE O (cz (chA c)) no h0 h1 rt l 1 i a q e) 0 then hsub 1 h0 a 0 else 0) = Value.int .i64 (bif iBeq (addE O (cz (chA c)) no h0 h1 rt l 1 i a q e) 0 then hsub 1 h0 a
  0 else 0) ∧ Value.int .i64 (bif iBeq (addE O (cz (chA c)) no h0 h1 rt l 1 i a q e) 0 then hsub 1 h1 a 1 else 0) = Value.int .i64 (bif iBeq (addE O (cz (chA c)) no h0 h1 rt l 1 i a q
  e) 0 then hsub 1 h1 a 1 else 0) ∧ Value.int .i64 (bif iBeq (addE O (cz (chA c)) no h0 h1 rt l 1 i a q e) 0 then rt else 0) = Value.int .i64 (bif iBeq (addE O (cz (chA c)) no h0 h1
  rt l 1 i a q e) 0 then rt else 0)) ∧ Cont.structs [.i64, .i64, .i64, .u64, .i64] (bif iBeq (addE O (cz (chA c)) no h0 h1 rt l 1 i a q e) 0 then insC [1, i, a, q, e] l else []) =
  Cont.structs [.i64, .i64, .i64, .u64, .i64] (bif iBeq (addE O (cz (chA c)) no h0 h1 rt l 1 i a q e) 0 then insC [1, i, a, q, e] l else []) ∧ Array.mk [Value.int .i64 1, Value.int
  .i64 i, Value.int .i64 a, Value.int .u64 q, Value.int .i64 e] = Array.mk [Value.int .i64 1, Value.int .i64 i, Value.int .i64 a, Value.int .u64 q, Value.int .i64 e] ∧ (Value.int .i64
  no = Value.int .i64 no ∧ Value.int .i64 h0 = Value.int .i64 h0 ∧ Value.int .i64 h1 = Value.int .i64 h1 ∧ Value.int .i64 rt = Value.int .i64 rt) ∧ chA c = chA c ∧ Cont.structs [.i64,
  .i64, .i64, .u64, .i64] l = Cont.structs [.i64, .i64, .i64, .u64, .i64] l ∧ True) ∧ ∀ (x : Nat), x ≤ nAdd l.length 1 → If (iLt (iOf x) (iOf (Cont.structs [.i64, .i64, .i64, .u64,
  .i64] (bif iBeq (addE O (cz (chA c)) no h0 h1 rt l 1 i a q e) 0 then insC [1, i, a, q, e] l else [])).n)) (If (iLe 0 (iOf x) && (iOf x).toNat.blt (bif iBeq (addE O (cz (chA c)) no
  h0 h1 rt l 1 i a q e) 0 then insC [1, i, a, q, e] l else []).length) (If ((iOf x).toNat.blt (bif iBeq (addE O (cz (chA c)) no h0 h1 rt l 1 i a q e) 0 then insC [1, i, a, q, e] l
  else []).length) (If (true && Nat.beq 5 5 && (iOf x).toNat.blt (bif iBeq (addE O (cz (chA c)) no h0 h1 rt l 1 i a q e) 0 then insC [1, i, a, q, e] l else []).length) (If (iBeq
  (((bif iBeq (addE O (cz (chA c)) no h0 h1 rt l 1 i a q e) 0 then insC [1, i, a, q, e] l else []).getD (iOf x).toNat []).getD 0 0) 1) (If (iLe 0 (iOf x) && (iOf x).toNat.blt (bif
  iBeq (addE O (cz (chA c)) no h0 h1 rt l 1 i a q e) 0 then insC [1, i, a, q, e] l else []).length) (If ((iOf x).toNat.blt (bif iBeq (addE O (cz (chA c)) no h0 h1 rt l 1 i a q e) 0
  then insC [1, i, a, q, e] l else []).length) (If (true && Nat.beq 5 5 && (iOf x).toNat.blt (bif iBeq (addE O (cz (chA c)) no h0 h1 rt l 1 i a q e) 0 then insC [1, i, a, q, e] l else
  []).length) (If (iLe 0 (iOf x) && (iOf x).toNat.blt (bif iBeq (addE O (cz (chA c)) no h0 h1 rt l 1 i a q e) 0 then insC [1, i, a, q, e] l else []).length) (If ((iOf x).toNat.blt
  (bif iBeq (addE O (cz (chA c)) no h0 h1 rt l 1 i a q e) 0 then insC [1, i, a, q, e] l else []).length) (If (true && Nat.beq 5 5 && (iOf x).toNat.blt (bif iBeq (addE O (cz (chA c))
  no h0 h1 rt l 1 i a q e) 0 then insC [1, i, a, q, e] l else []).length) (If (iLt (((bif iBeq (addE O (cz (chA c)) no h0 h1 rt l 1 i a q e) 0 then insC [1, i, a, q, e] l else
  []).getD (iOf x).toNat []).getD (nAdd (nAdd 0 1) 1) 0) (c 48)) (Value.bool false = Value.bool true ∧ True ∧ True) (∃ (x' : Nat), x' ≤ nAdd l.length 1 ∧ (nSub (nAdd l.length 1)
  x').succ ≤ nSub (nAdd l.length 1) x ∧ (Value.int .i64 (IntKind.i64.wrap (iAdd (iOf (cntF 1 (List.take x (insC [1, i, a, q, e] l)))) 1)) = Value.int .i64 (iOf (cntF 1 (List.take x'
  (insC [1, i, a, q, e] l)))) ∧ Value.int .i64 (IntKind.i64.wrap (iAdd (sumF 1 (List.take x (insC [1, i, a, q, e] l))) (((bif iBeq (addE O (cz (chA c)) no h0 h1 rt l 1 i a q e) 0 then
  insC [1, i, a, q, e] l else []).getD (iOf x).toNat []).getD 2 0))) = Value.int .i64 (sumF 1 (List.take x' (insC [1, i, a, q, e] l))) ∧ Value.int .i64 (IntKind.i64.wrap (iAdd (iOf x)
  1)) = Value.int .i64 (iOf x') ∧ Value.bool false = Value.bool false ∧ Value.bool true = Value.bool true ∧ Value.bool (fewB h0 h1 rt l) = Value.bool (fewB h0 h1 rt l) ∧ Value.int
  .i64 (addE O (cz (chA c)) no h0 h1 rt l 1 i a q e) = Value.int .i64 (addE O (cz (chA c)) no h0 h1 rt l 1 i a q e) ∧ Value.int .i64 (bif iBeq (addE O (cz (chA c)) no h0 h1 rt l 1 i a
  q e) 0 then hsub 1 h1 a 1 else 0) = Value.int .i64 (bif iBeq (addE O (cz (chA c)) no h0 h1 rt l 1 i a q e) 0 then hsub 1 h1 a 1 else 0) ∧ True) ∧ (chA c).extract 44 50 = (chA
  c).extract 44 50 ∧ (Value.int .i64 (bif iBeq (addE O (cz (chA c)) no h0 h1 rt l 1 i a q e) 0 then no else 0) = Value.int .i64 (bif iBeq (addE O (cz (chA c)) no h0 h1 rt l 1 i a q e)
  0 then no else 0) ∧ Value.int .i64 (bif iBeq (addE O (cz (chA c)) no h0 h1 rt l 1 i a q e) 0 then hsub 1 h0 a 0 else 0) = Value.int .i64 (bif iBeq (addE O (cz (chA c)) no h0 h1 rt l
  1 i a q e) 0 then hsub 1 h0 a 0 else 0) ∧ Value.int .i64 (bif iBeq (addE O (cz (chA c)) no h0 h1 rt l 1 i a q e) 0 then hsub 1 h1 a 1 else 0) = Value.int .i64 (bif iBeq (addE O (cz
  (chA c)) no h0 h1 rt l 1 i a q e) 0 then hsub 1 h1 a 1 else 0) ∧ Value.int .i64 (bif iBeq (addE O (cz (chA c)) no h0 h1 rt l 1 i a q e) 0 then rt else 0) = Value.int .i64 (bif iBeq
  (addE O (cz (chA c)) no h0 h1 rt l 1 i a q e) 0 then rt else 0)) ∧ Cont.structs [.i64, .i64, .i64, .u64, .i64] (bif iBeq (addE O (cz (chA c)) no h0 h1 rt l 1 i a q e) 0 then insC
  [1, i, a, q, e] l else []) = Cont.structs [.i64, .i64, .i64, .u64, .i64] (bif iBeq (addE O (cz (chA c)) no h0 h1 rt l 1 i a q e) 0 then insC [1, i, a, q, e] l else []) ∧ Array.mk
  [Value.int .i64 1, Value.int .i64 i, Value.int .i64 a, Value.int .u64 q, Value.int .i64 e] = Array.mk [Value.int .i64 1, Value.int .i64 i, Value.int .i64 a, Value.int .u64 q,
  Value.int .i64 e] ∧ (Value.int .i64 no = Value.int .i64 no ∧ Value.int .i64 h0 = Value.int .i64 h0 ∧ Value.int .i64 h1 = Value.int .i64 h1 ∧ Value.int .i64 rt = Value.int .i64 rt) ∧
  chA c = chA c ∧ Cont.structs [.i64, .i64, .i64, .u64, .i64] l = Cont.structs [.i64, .i64, .i64, .u64, .i64] l ∧ True)) False) False) False) False) False) False) (∃ (x' : Nat), x' ≤
  nAdd l.length 1 ∧ (nSub (nAdd l.length 1) x').succ ≤ nSub (nAdd l.length 1) x ∧ (Value.int .i64 (iOf (cntF 1 (List.take x (insC [1, i, a, q, e] l)))) = Value.int .i64 (iOf (cntF 1
  (List.take x' (insC [1, i, a, q, e] l)))) ∧ Value.int .i64 (sumF 1 (List.take x (insC [1, i, a, q, e] l))) = Value.int .i64 (sumF 1 (List.take x' (insC [1, i, a, q, e] l))) ∧
  Value.int .i64 (IntKind.i64.wrap (iAdd (iOf x) 1)) = Value.int .i64 (iOf x') ∧ Value.bool false = Value.bool false ∧ Value.bool true = Value.bool true ∧ Value.bool (fewB h0 h1 rt l)
  = Value.bool (fewB h0 h1 rt l) ∧ Value.int .i64 (addE O (cz (chA c)) no h0 h1 rt l 1 i a q e) = Value.int .i64 (addE O (cz (chA c)) no h0 h1 rt l 1 i a q e) ∧ Value.int .i64 (bif
  iBeq (addE O (cz (chA c)) no h0 h1 rt l 1 i a q e) 0 then hsub 1 h1 a 1 else 0) = Value.int .i64 (bif iBeq (addE O (cz (chA c)) no h0 h1 rt l 1 i a q e) 0 then hsub 1 h1 a 1 else 0)
  ∧ True) ∧ (chA c).extract 44 50 = (chA c).extract 44 50 ∧ (Value.int .i64 (bif iBeq (addE O (cz (chA c)) no h0 h1 rt l 1 i a q e) 0 then no else 0) = Value.int .i64 (bif iBeq (addE
  O (cz (chA c)) no h0 h1 rt l 1 i a q e) 0 then no else 0) ∧ Value.int .i64 (bif iBeq (addE O (cz (chA c)) no h0 h1 rt l 1 i a q e) 0 then hsub 1 h0 a 0 else 0) = Value.int .i64 (bif
  iBeq (addE O (cz (chA c)) no h0 h1 rt l 1 i a q e) 0 then hsub 1 h0 a 0 else 0) ∧ Value.int .i64 (bif iBeq (addE O (cz (chA c)) no h0 h1 rt l 1 i a q e) 0 then hsub 1 h1 a 1 else 0)
  = Value.int .i64 (bif iBeq (addE O (cz (chA c)) no h0 h1 rt l 1 i a q e) 0 then hsub 1 h1 a 1 else 0) ∧ Value.int .i64 (bif iBeq (addE O (cz (chA c)) no h0 h1 rt l 1 i a q e) 0 then
  rt else 0) = Value.int .i64 (bif iBeq (addE O (cz (chA c)) no h0 h1 rt l 1 i a q e) 0 then rt else 0)) ∧ Cont.structs [.i64, .i64, .i64, .u64, .i64] (bif iBeq (addE O (cz (chA c))
  no h0 h1 rt l 1 i a q e) 0 then insC [1, i, a, q, e] l else []) = Cont.structs [.i64, .i64, .i64, .u64, .i64] (bif iBeq (addE O (cz (chA c)) no h0 h1 rt l 1 i a q e) 0 then insC [1,
  i, a, q, e] l else []) ∧ Array.mk [Value.int .i64 1, Value.int .i64 i, Value.int .i64 a, Value.int .u64 q, Value.int .i64 e] = Array.mk [Value.int .i64 1, Value.int .i64 i,
  Value.int .i64 a, Value.int .u64 q, Value.int .i64 e] ∧ (Value.int .i64 no = Value.int .i64 no ∧ Value.int .i64 h0 = Value.int .i64 h0 ∧ Value.int .i64 h1 = Value.int .i64 h1 ∧
  Value.int .i64 rt = Value.int .i64 rt) ∧ chA c = chA c ∧ Cont.structs [.i64, .i64, .i64, .u64, .i64] l = Cont.structs [.i64, .i64, .i64, .u64, .i64] l ∧ True)) False) False) False)
  (If (iLe (c 45) (bif iBeq (addE O (cz (chA c)) no h0 h1 rt l 1 i a q e) 0 then hsub 1 h1 a 1 else 0)) (If (iLe (iOf (cntF 1 (List.take x (insC [1, i, a, q, e] l)))) (c 47)) (If (iLe
  (sumF 1 (List.take x (insC [1, i, a, q, e] l))) (c 49)) (If (iLe (iOf (Cont.structs [.i64, .i64, .i64, .u64, .i64] (bif iBeq (addE O (cz (chA c)) no h0 h1 rt l 1 i a q e) 0 then
  insC [1, i, a, q, e] l else [])).n) 16) (Value.bool (iBeq (iOf (bif iBeq (addE O (cz (chA c)) no h0 h1 rt l 1 i a q e) 0 then insC [1, i, a, q, e] l else []).length)
  (IntKind.i64.wrap (iAdd (iOf l.length) 1))) = Value.bool true ∧ True ∧ True) (Value.bool false = Value.bool true ∧ True ∧ True)) (Value.bool false = Value.bool true ∧ True ∧ True))
  (Value.bool false = Value.bool true ∧ True ∧ True)) (Value.bool false = Value.bool true ∧ True ∧ True))))) False) := by
 simp only [ec]
 refine Sx.if_both (fun _ => (by first | rfl | trivial)) (fun hf => ?_)
 have l20 := few_len hf
 have l1 : Nat.ble l.length 1000 = true := by rw [Nat.ble_eq]; omega
 refine Sx.if_true (by rw [hc, l1, g1, g2]; rfl) (Sx.if_both (fun _ => (by first | rfl | trivial)) (fun hE => ?_))
 have hE := iBne_ff hE
 have A := add_right hE
 have zE : iBeq (addE O c no h0 h1 rt l 1 i a q e) 0 = true := by rw [hE]; rfl
 simp only [zE, cond_true]
 have lL : (insC [1, i, a, q, e] l).length = l.length + 1 := ins_len _ _
 have AR := A.right
 have AL : c 45 ≤ freeO c (hsub 1 h0 a 0) (hsub 1 h1 a 1) rt ((insC [1, i, a, q, e] l).length : Int) 1 := A.left
 have hco := fine_coins AR.fine
 generalize insC [1, i, a, q, e] l = L at *
 have l2 : Nat.ble L.length 1000 = true := by rw [Nat.ble_eq, lL]; omega
 simp only [Sx.app, Sx.nAdd, Sx.nSub, Sx.nMul, Sx.nPow, Sx.nDiv, Sx.nMod, Sx.iAdd, Sx.iSub, Sx.iMul, Sx.iNeg, Sx.iPow, Sx.iOf]
 refine Sx.if_both (fun t => Sx.if_true (by rw [hc, l2]; rfl) ?_) (fun t => ?_)
 ·have hleft : c 45 ≤ IntKind.i64.wrap (hsub 1 h1 a 1 - costO rt L.length) := by
   unfold freeO at AL
   rw [t] at AL
   exact AL
  refine ⟨⟨0, Nat.zero_le _, ⟨rfl, rfl, rfl, (by first | rfl | trivial)⟩, (by first | rfl | trivial)⟩, fun x hx => Sx.if_both (fun h => ?_) (fun h => ?_)⟩
  ·simp only [Bool.and_eq_true, Bool.or_eq_true, Sx.iLt_t, Sx.iLt_f, Sx.iLe_t, Sx.iLe_f, Sx.iEq_t, Sx.iEq_f, Sx.iBeq_t, Sx.iBeq_f, Sx.iBne_t, Sx.iBne_f, Nat.ble_eq, Nat.beq_eq, Sx.Cont.n] at h
   have hlt : x < L.length := by omega
   have hbl : x.blt L.length = true := by rw [Nat.blt_eq]; exact hlt
   simp only [Int.toNat_natCast]
   have hix : (iLe 0 (x : Int) && x.blt L.length) = true := by simp only [Bool.and_eq_true, Bool.or_eq_true, Sx.iLt_t, Sx.iLt_f, Sx.iLe_t, Sx.iLe_f, Sx.iEq_t, Sx.iEq_f, Sx.iBeq_t, Sx.iBeq_f, Sx.iBne_t, Sx.iBne_f, Nat.ble_eq, Nat.beq_eq, Sx.Cont.n, hbl, and_true]; omega
   have hx5 : (true && Nat.beq 5 5 && x.blt L.length) = true := by rw [hbl]; rfl
   have hfn := AR.fine _ (List.getElem_mem hlt)
   rw [← getD_at hlt] at hfn
   have tc := take_cnt 1 hlt
   have ts := take_sum 1 hlt
   have bd := take_bd 1 hco x (by omega)
   have bm : 1 ≤ amt (L.getD x []) ∧ amt (L.getD x []) ≤ 1125899906842624 := hfn.1.2.2.1
   refine Sx.if_true hix (Sx.if_true hbl (Sx.if_true hx5 (Sx.if_both (fun t => Sx.if_true hix (Sx.if_true hbl (Sx.if_true hx5 (Sx.if_true hix (Sx.if_true hbl (Sx.if_true hx5 (Sx.if_false ?_ ?_)))))))  (fun t => ?_))))
   ·have t : fr (L.getD x []) = 1 := by rw [iBeq_t] at t; exact t
    have hl := hfn.2
    rw [t] at hl
    have hl : c 48 ≤ amt (L.getD x []) := hl
    show iLt (amt (L.getD x [])) (c 48) = false
    rw [iLt_f]; omega
   ·have t : fr (L.getD x []) = 1 := by rw [iBeq_t] at t; exact t
    rw [if_pos t] at tc ts
    refine ⟨x + 1, by omega, by omega, ⟨?_, ?_, by rw [wrap_succ (by omega)], (by first | rfl | trivial)⟩, (by first | rfl | trivial)⟩
    ·rw [tc, wrap_in (by omega) (by omega)]; rfl
    ·rw [ts, show (L.getD x []).getD 2 0 = amt (L.getD x []) from rfl, wrap_in (by omega) (by omega)]
   ·have t : ¬ fr (L.getD x []) = 1 := by rw [iBeq_f] at t; exact t
    rw [if_neg t] at tc ts
    exact ⟨x + 1, by omega, by omega, ⟨by rw [tc]; rfl, by rw [ts, Int.add_zero], by rw [wrap_succ (by omega)], (by first | rfl | trivial)⟩, (by first | rfl | trivial)⟩
  ·simp only [Bool.and_eq_true, Bool.or_eq_true, Sx.iLt_t, Sx.iLt_f, Sx.iLe_t, Sx.iLe_f, Sx.iEq_t, Sx.iEq_f, Sx.iBeq_t, Sx.iBeq_f, Sx.iBne_t, Sx.iBne_f, Nat.ble_eq, Nat.beq_eq, Sx.Cont.n] at h
   have hx1 : x = L.length := by omega
   have tk : L.take x = L := by rw [hx1]; exact List.take_of_length_le (Nat.le_refl _)
   rw [tk]
   have nn := AR.n1
   have nss := AR.s1
   have n16 := AR.len
   refine Sx.if_true (by rw [iLe_t]; exact hleft) (Sx.if_true (by rw [iLe_t]; exact nn) (Sx.if_true (by rw [iLe_t]; exact nss) (Sx.if_true (by simp only [Bool.and_eq_true, Bool.or_eq_true, Sx.iLt_t, Sx.iLt_f, Sx.iLe_t, Sx.iLe_f, Sx.iEq_t, Sx.iEq_f, Sx.iBeq_t, Sx.iBeq_f, Sx.iBne_t, Sx.iBne_f, Nat.ble_eq, Nat.beq_eq, Sx.Cont.n]; omega) ⟨?_, (by first | rfl | trivial)⟩)))
   rw [show iBeq (L.length : Int) (IntKind.i64.wrap ((l.length : Int) + 1)) = true by rw [iBeq_t, wrap_in (by omega) (by omega), lL]; omega]
 ·have hleft : c 45 ≤ hsub 1 h1 a 1 := by
   unfold freeO at AL
   rw [t] at AL
   exact AL
  refine ⟨⟨0, Nat.zero_le _, ⟨rfl, rfl, rfl, (by first | rfl | trivial)⟩, (by first | rfl | trivial)⟩, fun x hx => Sx.if_both (fun h => ?_) (fun h => ?_)⟩
  ·simp only [Bool.and_eq_true, Bool.or_eq_true, Sx.iLt_t, Sx.iLt_f, Sx.iLe_t, Sx.iLe_f, Sx.iEq_t, Sx.iEq_f, Sx.iBeq_t, Sx.iBeq_f, Sx.iBne_t, Sx.iBne_f, Nat.ble_eq, Nat.beq_eq, Sx.Cont.n] at h
   have hlt : x < L.length := by omega
   have hbl : x.blt L.length = true := by rw [Nat.blt_eq]; exact hlt
   simp only [Int.toNat_natCast]
   have hix : (iLe 0 (x : Int) && x.blt L.length) = true := by simp only [Bool.and_eq_true, Bool.or_eq_true, Sx.iLt_t, Sx.iLt_f, Sx.iLe_t, Sx.iLe_f, Sx.iEq_t, Sx.iEq_f, Sx.iBeq_t, Sx.iBeq_f, Sx.iBne_t, Sx.iBne_f, Nat.ble_eq, Nat.beq_eq, Sx.Cont.n, hbl, and_true]; omega
   have hx5 : (true && Nat.beq 5 5 && x.blt L.length) = true := by rw [hbl]; rfl
   have hfn := AR.fine _ (List.getElem_mem hlt)
   rw [← getD_at hlt] at hfn
   have tc := take_cnt 1 hlt
   have ts := take_sum 1 hlt
   have bd := take_bd 1 hco x (by omega)
   have bm : 1 ≤ amt (L.getD x []) ∧ amt (L.getD x []) ≤ 1125899906842624 := hfn.1.2.2.1
   refine Sx.if_true hix (Sx.if_true hbl (Sx.if_true hx5 (Sx.if_both (fun t => Sx.if_true hix (Sx.if_true hbl (Sx.if_true hx5 (Sx.if_true hix (Sx.if_true hbl (Sx.if_true hx5 (Sx.if_false ?_ ?_)))))))  (fun t => ?_))))
   ·have t : fr (L.getD x []) = 1 := by rw [iBeq_t] at t; exact t
    have hl := hfn.2
    rw [t] at hl
    have hl : c 48 ≤ amt (L.getD x []) := hl
    show iLt (amt (L.getD x [])) (c 48) = false
    rw [iLt_f]; omega
   ·have t : fr (L.getD x []) = 1 := by rw [iBeq_t] at t; exact t
    rw [if_pos t] at tc ts
    refine ⟨x + 1, by omega, by omega, ⟨?_, ?_, by rw [wrap_succ (by omega)], (by first | rfl | trivial)⟩, (by first | rfl | trivial)⟩
    ·rw [tc, wrap_in (by omega) (by omega)]; rfl
    ·rw [ts, show (L.getD x []).getD 2 0 = amt (L.getD x []) from rfl, wrap_in (by omega) (by omega)]
   ·have t : ¬ fr (L.getD x []) = 1 := by rw [iBeq_f] at t; exact t
    rw [if_neg t] at tc ts
    exact ⟨x + 1, by omega, by omega, ⟨by rw [tc]; rfl, by rw [ts, Int.add_zero], by rw [wrap_succ (by omega)], (by first | rfl | trivial)⟩, (by first | rfl | trivial)⟩
  ·simp only [Bool.and_eq_true, Bool.or_eq_true, Sx.iLt_t, Sx.iLt_f, Sx.iLe_t, Sx.iLe_f, Sx.iEq_t, Sx.iEq_f, Sx.iBeq_t, Sx.iBeq_f, Sx.iBne_t, Sx.iBne_f, Nat.ble_eq, Nat.beq_eq, Sx.Cont.n] at h
   have hx1 : x = L.length := by omega
   have tk : L.take x = L := by rw [hx1]; exact List.take_of_length_le (Nat.le_refl _)
   rw [tk]
   have nn := AR.n1
   have nss := AR.s1
   have n16 := AR.len
   refine Sx.if_true (by rw [iLe_t]; exact hleft) (Sx.if_true (by rw [iLe_t]; exact nn) (Sx.if_true (by rw [iLe_t]; exact nss) (Sx.if_true (by simp only [Bool.and_eq_true, Bool.or_eq_true, Sx.iLt_t, Sx.iLt_f, Sx.iLe_t, Sx.iLe_f, Sx.iEq_t, Sx.iEq_f, Sx.iBeq_t, Sx.iBeq_f, Sx.iBne_t, Sx.iBne_f, Nat.ble_eq, Nat.beq_eq, Sx.Cont.n]; omega) ⟨?_, (by first | rfl | trivial)⟩)))
   rw [show iBeq (L.length : Int) (IntKind.i64.wrap ((l.length : Int) + 1)) = true by rw [iBeq_t, wrap_in (by omega) (by omega), lL]; omega]
theorem wpc_sasks1 (O : OO) (Y : OY) (c : Nat → Int) (no h0 h1 rt : Int) (l : List (List Int)) (i a q e : Int) (F : FO O) (hy : Y = yO O) (hc : chB (chA c) = true) (g0 : Nat.ble l.length 9223372036854775807 = true) (g1 : cnd l = true) (g2 : inU q 18446744073709551616 = true) (ec : cz (chA c) = c) : wpcI Try.prog (spS21 O Y) Try.f4.ntmps [⟨Nat, [3, 4, 5, 6, 7, 8, 9, 10, 11, 12], [], fun B j => [(13, .v (.int .i64 (cntF 1 ((insC [1, i, a, q, e] l).take j) : Nat))), (14, .v (.int .i64 (sumF 1 ((insC [1, i, a, q, e] l).take j)))), (15, .v (.int .i64 (j : Int)))], fun B j => [], fun j => j ≤ l.length + 1, fun j => l.length + 1 - j, 0⟩] (bodyOf Try.f4) 0 64 (envP (mks [.v, .agg [.v, .v, .v, .roS [.i64, .i64, .i64, .u64, .i64], .v], .v] [.v (.agg (chA c)), .node [.v (.int .i64 no), .v (.int .i64 h0), .v (.int .i64 h1), .structs l, .v (.int .i64 rt)], .v (.agg ⟨[.int .i64 1, .int .i64 i, .int .i64 a, .int .u64 q, .int .i64 e]⟩)] 0).1 0) (mks [.v, .agg [.v, .v, .v, .roS [.i64, .i64, .i64, .u64, .i64], .v], .v] [.v (.agg (chA c)), .node [.v (.int .i64 no), .v (.int .i64 h0), .v (.int .i64 h1), .structs l, .v (.int .i64 rt)], .v (.agg ⟨[.int .i64 1, .int .i64 i, .int .i64 a, .int .u64 q, .int .i64 e]⟩)] 0).2 (retP Try.prog Try.f4.results.toList 12 (⟨[.v (.bool true)], []⟩ : Post)) :=
 Eq.mpr (by kernel_rfl) (vc_sasks1 O Y c no h0 h1 rt l i a q e F hy hc g0 g1 g2 ec)
theorem ok_sasks1 (I : Sx.Interp) (O : OO) (hO : O = oo) (Y : OY) (hY : Y = yO O) : Sx.SpecOK I Try.prog 4 (pspec [.v, .agg [.v, .v, .v, .roS [.i64, .i64, .i64, .u64, .i64], .v], .v] false (g_sasks1 O Y)) := by
 refine spec_patI (spS21_ok I O hO Y hY) (by kernel_rfl) (fun ds => match ds with | [.v (.agg ch), .node [.v (.int .i64 no), .v (.int .i64 h0), .v (.int .i64 h1), .structs l, .v (.int .i64 rt)], .v (.agg ⟨[.int .i64 1, .int .i64 i, .int .i64 a, .int .u64 q, .int .i64 e]⟩)] => [⟨Nat, [3, 4, 5, 6, 7, 8, 9, 10, 11, 12], [], fun B j => [(13, .v (.int .i64 (cntF 1 ((insC [1, i, a, q, e] l).take j) : Nat))), (14, .v (.int .i64 (sumF 1 ((insC [1, i, a, q, e] l).take j)))), (15, .v (.int .i64 (j : Int)))], fun B j => [], fun j => j ≤ l.length + 1, fun j => l.length + 1 - j, 0⟩] | _ => []) Try.func4 (by kernel_rfl) (by kernel_rfl) rfl Try.ntmps4 (by decide) ?_ ?_
 ·intro ds p bs F h
  unfold g_sasks1 at h
  split at h
  ·simp only [Option.some.injEq, Prod.mk.injEq] at h
   obtain ⟨_, _, rfl⟩ := h
   kernel_rfl
  ·cases h
 ·intro ds bs F hl h
  unfold g_sasks1 at h
  split at h
  ·rename_i ch no h0 h1 l rt i a q e
   simp only [Option.some.injEq, Prod.mk.injEq, Bool.and_eq_true] at h
   obtain ⟨⟨⟨⟨hc, g0⟩, g1⟩, g2⟩, _, rfl⟩ := h
   obtain ⟨c, ec, rfl⟩ : ∃ c, cz ch = c ∧ ch = chA c := ⟨_, rfl, chB_eq hc⟩
   simp only [ec]
   exact wpc_sasks1 O Y c no h0 h1 rt l i a q e (fo_oo O hO) hY hc g0 g1 g2 (ec)
  ·cases h
def g_sasksX (O : OO) (Y : OY) (ds : List Dt) : Option (Bool × List Bool × (List Bool → Post)) := match ds with
 | [.v (.agg ch), .node [.v (.int .i64 no), .v (.int .i64 h0), .v (.int .i64 h1), .structs l, .v (.int .i64 rt)], .v (.agg ⟨[.int .i64 f, .int .i64 i, .int .i64 a, .int .u64 q, .int .i64 e]⟩)] => some ((chB ch) && (Nat.ble l.length 9223372036854775807) && (cnd l) && (inU q 18446744073709551616) && ((!(allW 0 1 [f]))), [], fun _ => ⟨[.v (.bool true)], []⟩)
 | _ => none
set_option maxHeartbeats 4000000 in
theorem vc_sasksX (O : OO) (Y : OY) (c : Nat → Int) (no h0 h1 rt : Int) (l : List (List Int)) (f i a q e : Int) (F : FO O) (hy : Y = yO O) (hc : chB (chA c) = true) (g0 : Nat.ble l.length 9223372036854775807 = true) (g1 : cnd l = true) (g2 : inU q 18446744073709551616 = true) (g3 : (!(allW 0 1 [f])) = true) (ec : cz (chA c) = c) :
 If (!fewB h0 h1 rt l) (Value.bool true = Value.bool true ∧ True ∧ True) (If (chB (chA c) && l.length.ble 1000 && cnd l && inU q 18446744073709551616 && !allW 0 1 [f]) (Value.bool
  true = Value.bool true ∧ True ∧ True) False) := by
 exact Sx.if_both (fun _ => (by first | rfl | trivial)) (fun hf => by
  have l20 := few_len hf
  have l1 : Nat.ble l.length 1000 = true := by rw [Nat.ble_eq]; omega
  exact Sx.if_true (by rw [hc, l1, g1, g2, g3]; rfl) (by first | rfl | trivial))
theorem wpc_sasksX (O : OO) (Y : OY) (c : Nat → Int) (no h0 h1 rt : Int) (l : List (List Int)) (f i a q e : Int) (F : FO O) (hy : Y = yO O) (hc : chB (chA c) = true) (g0 : Nat.ble l.length 9223372036854775807 = true) (g1 : cnd l = true) (g2 : inU q 18446744073709551616 = true) (g3 : (!(allW 0 1 [f])) = true) (ec : cz (chA c) = c) : wpcI Try.prog (spS22 O Y) Try.f4.ntmps [] (bodyOf Try.f4) 0 64 (envP (mks [.v, .agg [.v, .v, .v, .roS [.i64, .i64, .i64, .u64, .i64], .v], .v] [.v (.agg (chA c)), .node [.v (.int .i64 no), .v (.int .i64 h0), .v (.int .i64 h1), .structs l, .v (.int .i64 rt)], .v (.agg ⟨[.int .i64 f, .int .i64 i, .int .i64 a, .int .u64 q, .int .i64 e]⟩)] 0).1 0) (mks [.v, .agg [.v, .v, .v, .roS [.i64, .i64, .i64, .u64, .i64], .v], .v] [.v (.agg (chA c)), .node [.v (.int .i64 no), .v (.int .i64 h0), .v (.int .i64 h1), .structs l, .v (.int .i64 rt)], .v (.agg ⟨[.int .i64 f, .int .i64 i, .int .i64 a, .int .u64 q, .int .i64 e]⟩)] 0).2 (retP Try.prog Try.f4.results.toList 12 (⟨[.v (.bool true)], []⟩ : Post)) :=
 Eq.mpr (by kernel_rfl) (vc_sasksX O Y c no h0 h1 rt l f i a q e F hy hc g0 g1 g2 g3 ec)
theorem ok_sasksX (I : Sx.Interp) (O : OO) (hO : O = oo) (Y : OY) (hY : Y = yO O) : Sx.SpecOK I Try.prog 4 (pspec [.v, .agg [.v, .v, .v, .roS [.i64, .i64, .i64, .u64, .i64], .v], .v] false (g_sasksX O Y)) := by
 refine spec_patI (spS22_ok I O hO Y hY) (by kernel_rfl) (fun ds => match ds with | [.v (.agg ch), .node [.v (.int .i64 no), .v (.int .i64 h0), .v (.int .i64 h1), .structs l, .v (.int .i64 rt)], .v (.agg ⟨[.int .i64 f, .int .i64 i, .int .i64 a, .int .u64 q, .int .i64 e]⟩)] => [] | _ => []) Try.func4 (by kernel_rfl) (by kernel_rfl) rfl Try.ntmps4 (by decide) ?_ ?_
 ·intro ds p bs F h
  unfold g_sasksX at h
  split at h
  ·simp only [Option.some.injEq, Prod.mk.injEq] at h
   obtain ⟨_, _, rfl⟩ := h
   kernel_rfl
  ·cases h
 ·intro ds bs F hl h
  unfold g_sasksX at h
  split at h
  ·rename_i ch no h0 h1 l rt f i a q e
   simp only [Option.some.injEq, Prod.mk.injEq, Bool.and_eq_true] at h
   obtain ⟨⟨⟨⟨⟨hc, g0⟩, g1⟩, g2⟩, g3⟩, _, rfl⟩ := h
   obtain ⟨c, ec, rfl⟩ : ∃ c, cz ch = c ∧ ch = chA c := ⟨_, rfl, chB_eq hc⟩
   simp only [ec]
   exact wpc_sasksX O Y c no h0 h1 rt l f i a q e (fo_oo O hO) hY hc g0 g1 g2 g3 (ec)
  ·cases h
end Go.Proofs.Ytgekiddgdjeaiaa
