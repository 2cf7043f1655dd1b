/- Sheet: the walk of SheetBack (printed by genSh.py; VCs by VcTool). -/
import Derived.Test.YtgekiddgdjeaiaaSh9
namespace Go.Proofs.Ytgekiddgdjeaiaa
open Go.RowKit Go.Lib Ckp Cfd Cpd Sx
set_option linter.unusedVariables false
set_option linter.unusedSimpArgs false
set_option maxRecDepth 1000000
theorem dummyC : True := trivial
def g_sback0 (O : OO) (Y : OY) (ds : List Dt) : Option (Bool × List Bool × (List Bool → Post)) := match ds with
  | [.v (.agg ch), .node [.v (.int .i64 no), .v (.int .i64 h0), .v (.int .i64 h1), .structs l, .v (.int .i64 rt)], .v (.agg ⟨[.int .i64 0, .int .i64 i, .int .i64 a, .int .u64 q, .int .i64 e]⟩), .v (.int .u64 k)] => some ((chB ch) && (Nat.ble l.length 9223372036854775807) && (cnd l) && (inU k 18446744073709551616), [], fun _ => ⟨[.v (.bool true)], []⟩)
  | _ => none
set_option maxHeartbeats 4000000 in
theorem vc_sback0 (O : OO) (Y : OY) (c : Nat → Int) (no h0 h1 rt : Int) (l : List (List Int)) (i a q e k : Int) (F : FO O) (hy : Y = yO O) (hc : chB (chA c) = true) (g0 : Nat.ble l.length 9223372036854775807 = true) (g1 : cnd l = true) (g2 : inU k 18446744073709551616 = true) (ec : cz (chA c) = c) :
  If (!fewB h0 h1 rt l) (Value.bool true = Value.bool true ∧ True ∧ True) (If (inU k 18446744073709551616) (If (chB (chA c) && l.length.ble 1000 && cnd l && inU (O.pbase k)
    18446744073709551616) (If (iBne (addE O (cz (chA c)) no h0 h1 rt l 0 i a (O.pbase k) e) 0) (Value.bool true = Value.bool true ∧ True ∧ True) (If ((bif iBeq (addE O (cz (chA c)) no
    h0 h1 rt l 0 i a (O.pbase k) e) 0 then insC [0, i, a, O.pbase k, e] l else []).length.ble 1000) (If (chB (chA c) && (bif iBeq (addE O (cz (chA c)) no h0 h1 rt l 0 i a (O.pbase k) e)
    0 then insC [0, i, a, O.pbase k, e] l else []).length.ble 1000 && cnd (bif iBeq (addE O (cz (chA c)) no h0 h1 rt l 0 i a (O.pbase k) e) 0 then insC [0, i, a, O.pbase k, e] l else
    [])) (If (chB (chA c) && (bif iBeq (addE O (cz (chA c)) no h0 h1 rt l 0 i a (O.pbase k) e) 0 then insC [0, i, a, O.pbase k, e] l else []).length.ble 1000 && cnd (bif iBeq (addE O
    (cz (chA c)) no h0 h1 rt l 0 i a (O.pbase k) e) 0 then insC [0, i, a, O.pbase k, e] l else []) && inU k 18446744073709551616) (If (!iLt (idxS (matchF 0 i) (bif iBeq (addE O (cz (chA
    c)) no h0 h1 rt l 0 i a (O.pbase k) e) 0 then insC [0, i, a, O.pbase k, e] l else [])) 0) (If (eqv (Array.mk [Value.int .i64 (findC 0 i (bif iBeq (addE O (cz (chA c)) no h0 h1 rt l
    0 i a (O.pbase k) e) 0 then insC [0, i, a, O.pbase k, e] l else []) 0), Value.int .i64 (findC 0 i (bif iBeq (addE O (cz (chA c)) no h0 h1 rt l 0 i a (O.pbase k) e) 0 then insC [0,
    i, a, O.pbase k, e] l else []) 1), Value.int .i64 (findC 0 i (bif iBeq (addE O (cz (chA c)) no h0 h1 rt l 0 i a (O.pbase k) e) 0 then insC [0, i, a, O.pbase k, e] l else []) 2),
    Value.int .u64 (findC 0 i (bif iBeq (addE O (cz (chA c)) no h0 h1 rt l 0 i a (O.pbase k) e) 0 then insC [0, i, a, O.pbase k, e] l else []) 3), Value.int .i64 (findC 0 i (bif iBeq
    (addE O (cz (chA c)) no h0 h1 rt l 0 i a (O.pbase k) e) 0 then insC [0, i, a, O.pbase k, e] l else []) 4)]) (Array.mk ([Value.int .i64 0, Value.int .i64 i, Value.int .i64 a,
    Value.int .u64 q, Value.int .i64 e].set 3 (Value.int .u64 (O.pbase k))))) (If (iBeq (failE O (cz (chA c)) (bif iBeq (addE O (cz (chA c)) no h0 h1 rt l 0 i a (O.pbase k) e) 0 then no
    else 0) (bif iBeq (addE O (cz (chA c)) no h0 h1 rt l 0 i a (O.pbase k) e) 0 then hsub 0 h0 a 0 else 0) (bif iBeq (addE O (cz (chA c)) no h0 h1 rt l 0 i a (O.pbase k) e) 0 then hsub
    0 h1 a 1 else 0) (bif iBeq (addE O (cz (chA c)) no h0 h1 rt l 0 i a (O.pbase k) e) 0 then rt else 0) (bif iBeq (addE O (cz (chA c)) no h0 h1 rt l 0 i a (O.pbase k) e) 0 then insC
    [0, i, a, O.pbase k, e] l else []) 0 i) 0) (If ((bif iBeq (failE O (cz (chA c)) (bif iBeq (addE O (cz (chA c)) no h0 h1 rt l 0 i a (O.pbase k) e) 0 then no else 0) (bif iBeq (addE O
    (cz (chA c)) no h0 h1 rt l 0 i a (O.pbase k) e) 0 then hsub 0 h0 a 0 else 0) (bif iBeq (addE O (cz (chA c)) no h0 h1 rt l 0 i a (O.pbase k) e) 0 then hsub 0 h1 a 1 else 0) (bif iBeq
    (addE O (cz (chA c)) no h0 h1 rt l 0 i a (O.pbase k) e) 0 then rt else 0) (bif iBeq (addE O (cz (chA c)) no h0 h1 rt l 0 i a (O.pbase k) e) 0 then insC [0, i, a, O.pbase k, e] l
    else []) 0 i) 0 then remC [findC 0 i (bif iBeq (addE O (cz (chA c)) no h0 h1 rt l 0 i a (O.pbase k) e) 0 then insC [0, i, a, O.pbase k, e] l else []) 0, findC 0 i (bif iBeq (addE O
    (cz (chA c)) no h0 h1 rt l 0 i a (O.pbase k) e) 0 then insC [0, i, a, O.pbase k, e] l else []) 1, findC 0 i (bif iBeq (addE O (cz (chA c)) no h0 h1 rt l 0 i a (O.pbase k) e) 0 then
    insC [0, i, a, O.pbase k, e] l else []) 2, findC 0 i (bif iBeq (addE O (cz (chA c)) no h0 h1 rt l 0 i a (O.pbase k) e) 0 then insC [0, i, a, O.pbase k, e] l else []) 3, findC 0 i
    (bif iBeq (addE O (cz (chA c)) no h0 h1 rt l 0 i a (O.pbase k) e) 0 then insC [0, i, a, O.pbase k, e] l else []) 4] (bif iBeq (addE O (cz (chA c)) no h0 h1 rt l 0 i a (O.pbase k) e)
    0 then insC [0, i, a, O.pbase k, e] l else []) else []).length.ble 1000 && cnd (bif iBeq (failE O (cz (chA c)) (bif iBeq (addE O (cz (chA c)) no h0 h1 rt l 0 i a (O.pbase k) e) 0
    then no else 0) (bif iBeq (addE O (cz (chA c)) no h0 h1 rt l 0 i a (O.pbase k) e) 0 then hsub 0 h0 a 0 else 0) (bif iBeq (addE O (cz (chA c)) no h0 h1 rt l 0 i a (O.pbase k) e) 0
    then hsub 0 h1 a 1 else 0) (bif iBeq (addE O (cz (chA c)) no h0 h1 rt l 0 i a (O.pbase k) e) 0 then rt else 0) (bif iBeq (addE O (cz (chA c)) no h0 h1 rt l 0 i a (O.pbase k) e) 0
    then insC [0, i, a, O.pbase k, e] l else []) 0 i) 0 then remC [findC 0 i (bif iBeq (addE O (cz (chA c)) no h0 h1 rt l 0 i a (O.pbase k) e) 0 then insC [0, i, a, O.pbase k, e] l else
    []) 0, findC 0 i (bif iBeq (addE O (cz (chA c)) no h0 h1 rt l 0 i a (O.pbase k) e) 0 then insC [0, i, a, O.pbase k, e] l else []) 1, findC 0 i (bif iBeq (addE O (cz (chA c)) no h0
    h1 rt l 0 i a (O.pbase k) e) 0 then insC [0, i, a, O.pbase k, e] l else []) 2, findC 0 i (bif iBeq (addE O (cz (chA c)) no h0 h1 rt l 0 i a (O.pbase k) e) 0 then insC [0, i, a,
    O.pbase k, e] l else []) 3, findC 0 i (bif iBeq (addE O (cz (chA c)) no h0 h1 rt l 0 i a (O.pbase k) e) 0 then insC [0, i, a, O.pbase k, e] l else []) 4] (bif iBeq (addE O (cz (chA
    c)) no h0 h1 rt l 0 i a (O.pbase k) e) 0 then insC [0, i, a, O.pbase k, e] l else []) else []) && l.length.ble 1000 && cnd l) (If (sameB (bif iBeq (failE O (cz (chA c)) (bif iBeq
    (addE O (cz (chA c)) no h0 h1 rt l 0 i a (O.pbase k) e) 0 then no else 0) (bif iBeq (addE O (cz (chA c)) no h0 h1 rt l 0 i a (O.pbase k) e) 0 then hsub 0 h0 a 0 else 0) (bif iBeq
    (addE O (cz (chA c)) no h0 h1 rt l 0 i a (O.pbase k) e) 0 then hsub 0 h1 a 1 else 0) (bif iBeq (addE O (cz (chA c)) no h0 h1 rt l 0 i a (O.pbase k) e) 0 then rt else 0) (bif iBeq
    (addE O (cz (chA c)) no h0 h1 rt l 0 i a (O.pbase k) e) 0 then insC [0, i, a, O.pbase k, e] l else []) 0 i) 0 then bif iBeq (addE O (cz (chA c)) no h0 h1 rt l 0 i a (O.pbase k) e) 0
    then no else 0 else 0) (bif iBeq (failE O (cz (chA c)) (bif iBeq (addE O (cz (chA c)) no h0 h1 rt l 0 i a (O.pbase k) e) 0 then no else 0) (bif iBeq (addE O (cz (chA c)) no h0 h1 rt
    l 0 i a (O.pbase k) e) 0 then hsub 0 h0 a 0 else 0) (bif iBeq (addE O (cz (chA c)) no h0 h1 rt l 0 i a (O.pbase k) e) 0 then hsub 0 h1 a 1 else 0) (bif iBeq (addE O (cz (chA c)) no
    h0 h1 rt l 0 i a (O.pbase k) e) 0 then rt else 0) (bif iBeq (addE O (cz (chA c)) no h0 h1 rt l 0 i a (O.pbase k) e) 0 then insC [0, i, a, O.pbase k, e] l else []) 0 i) 0 then hadd 0
    (bif iBeq (addE O (cz (chA c)) no h0 h1 rt l 0 i a (O.pbase k) e) 0 then hsub 0 h0 a 0 else 0) (findC 0 i (bif iBeq (addE O (cz (chA c)) no h0 h1 rt l 0 i a (O.pbase k) e) 0 then
    insC [0, i, a, O.pbase k, e] l else []) 2) 0 else 0) (bif iBeq (failE O (cz (chA c)) (bif iBeq (addE O (cz (chA c)) no h0 h1 rt l 0 i a (O.pbase k) e) 0 then no else 0) (bif iBeq
    (addE O (cz (chA c)) no h0 h1 rt l 0 i a (O.pbase k) e) 0 then hsub 0 h0 a 0 else 0) (bif iBeq (addE O (cz (chA c)) no h0 h1 rt l 0 i a (O.pbase k) e) 0 then hsub 0 h1 a 1 else 0)
    (bif iBeq (addE O (cz (chA c)) no h0 h1 rt l 0 i a (O.pbase k) e) 0 then rt else 0) (bif iBeq (addE O (cz (chA c)) no h0 h1 rt l 0 i a (O.pbase k) e) 0 then insC [0, i, a, O.pbase
    k, e] l else []) 0 i) 0 then hadd 0 (bif iBeq (addE O (cz (chA c)) no h0 h1 rt l 0 i a (O.pbase k) e) 0 then hsub 0 h1 a 1 else 0) (findC 0 i (bif iBeq (addE O (cz (chA c)) no h0 h1
    rt l 0 i a (O.pbase k) e) 0 then insC [0, i, a, O.pbase k, e] l else []) 2) 1 else 0) (bif iBeq (failE O (cz (chA c)) (bif iBeq (addE O (cz (chA c)) no h0 h1 rt l 0 i a (O.pbase k)
    e) 0 then no else 0) (bif iBeq (addE O (cz (chA c)) no h0 h1 rt l 0 i a (O.pbase k) e) 0 then hsub 0 h0 a 0 else 0) (bif iBeq (addE O (cz (chA c)) no h0 h1 rt l 0 i a (O.pbase k) e)
    0 then hsub 0 h1 a 1 else 0) (bif iBeq (addE O (cz (chA c)) no h0 h1 rt l 0 i a (O.pbase k) e) 0 then rt else 0) (bif iBeq (addE O (cz (chA c)) no h0 h1 rt l 0 i a (O.pbase k) e) 0
    then insC [0, i, a, O.pbase k, e] l else []) 0 i) 0 then bif iBeq (addE O (cz (chA c)) no h0 h1 rt l 0 i a (O.pbase k) e) 0 then rt else 0 else 0) (bif iBeq (failE O (cz (chA c))
    (bif iBeq (addE O (cz (chA c)) no h0 h1 rt l 0 i a (O.pbase k) e) 0 then no else 0) (bif iBeq (addE O (cz (chA c)) no h0 h1 rt l 0 i a (O.pbase k) e) 0 then hsub 0 h0 a 0 else 0)
    (bif iBeq (addE O (cz (chA c)) no h0 h1 rt l 0 i a (O.pbase k) e) 0 then hsub 0 h1 a 1 else 0) (bif iBeq (addE O (cz (chA c)) no h0 h1 rt l 0 i a (O.pbase k) e) 0 then rt else 0)
    (bif iBeq (addE O (cz (chA c)) no h0 h1 rt l 0 i a (O.pbase k) e) 0 then insC [0, i, a, O.pbase k, e] l else []) 0 i) 0 then remC [findC 0 i (bif iBeq (addE O (cz (chA c)) no h0 h1
    rt l 0 i a (O.pbase k) e) 0 then insC [0, i, a, O.pbase k, e] l else []) 0, findC 0 i (bif iBeq (addE O (cz (chA c)) no h0 h1 rt l 0 i a (O.pbase k) e) 0 then insC [0, i, a, O.pbase
    k, e] l else []) 1, findC 0 i (bif iBeq (addE O (cz (chA c)) no h0 h1 rt l 0 i a (O.pbase k) e) 0 then insC [0, i, a, O.pbase k, e] l else []) 2, findC 0 i (bif iBeq (addE O (cz
    (chA c)) no h0 h1 rt l 0 i a (O.pbase k) e) 0 then insC [0, i, a, O.pbase k, e] l else []) 3, findC 0 i (bif iBeq (addE O (cz (chA c)) no h0 h1 rt l 0 i a (O.pbase k) e) 0 then insC
    [0, i, a, O.pbase k, e] l else []) 4] (bif iBeq (addE O (cz (chA c)) no h0 h1 rt l 0 i a (O.pbase k) e) 0 then insC [0, i, a, O.pbase k, e] l else []) else []) no h0 h1 rt l) (If
    (iBeq (setE O (cz (chA c)) (bif iBeq (addE O (cz (chA c)) no h0 h1 rt l 0 i a (O.pbase k) e) 0 then no else 0) (bif iBeq (addE O (cz (chA c)) no h0 h1 rt l 0 i a (O.pbase k) e) 0
    then hsub 0 h0 a 0 else 0) (bif iBeq (addE O (cz (chA c)) no h0 h1 rt l 0 i a (O.pbase k) e) 0 then hsub 0 h1 a 1 else 0) (bif iBeq (addE O (cz (chA c)) no h0 h1 rt l 0 i a (O.pbase
    k) e) 0 then rt else 0) (bif iBeq (addE O (cz (chA c)) no h0 h1 rt l 0 i a (O.pbase k) e) 0 then insC [0, i, a, O.pbase k, e] l else []) 0 i k) 0) (If ((bif iBeq (setE O (cz (chA
    c)) (bif iBeq (addE O (cz (chA c)) no h0 h1 rt l 0 i a (O.pbase k) e) 0 then no else 0) (bif iBeq (addE O (cz (chA c)) no h0 h1 rt l 0 i a (O.pbase k) e) 0 then hsub 0 h0 a 0 else
    0) (bif iBeq (addE O (cz (chA c)) no h0 h1 rt l 0 i a (O.pbase k) e) 0 then hsub 0 h1 a 1 else 0) (bif iBeq (addE O (cz (chA c)) no h0 h1 rt l 0 i a (O.pbase k) e) 0 then rt else 0)
    (bif iBeq (addE O (cz (chA c)) no h0 h1 rt l 0 i a (O.pbase k) e) 0 then insC [0, i, a, O.pbase k, e] l else []) 0 i k) 0 then remC [findC 0 i (bif iBeq (addE O (cz (chA c)) no h0
    h1 rt l 0 i a (O.pbase k) e) 0 then insC [0, i, a, O.pbase k, e] l else []) 0, findC 0 i (bif iBeq (addE O (cz (chA c)) no h0 h1 rt l 0 i a (O.pbase k) e) 0 then insC [0, i, a,
    O.pbase k, e] l else []) 1, findC 0 i (bif iBeq (addE O (cz (chA c)) no h0 h1 rt l 0 i a (O.pbase k) e) 0 then insC [0, i, a, O.pbase k, e] l else []) 2, findC 0 i (bif iBeq (addE O
    (cz (chA c)) no h0 h1 rt l 0 i a (O.pbase k) e) 0 then insC [0, i, a, O.pbase k, e] l else []) 3, findC 0 i (bif iBeq (addE O (cz (chA c)) no h0 h1 rt l 0 i a (O.pbase k) e) 0 then
    insC [0, i, a, O.pbase k, e] l else []) 4] (bif iBeq (addE O (cz (chA c)) no h0 h1 rt l 0 i a (O.pbase k) e) 0 then insC [0, i, a, O.pbase k, e] l else []) else []).length.ble 1000
    && cnd (bif iBeq (setE O (cz (chA c)) (bif iBeq (addE O (cz (chA c)) no h0 h1 rt l 0 i a (O.pbase k) e) 0 then no else 0) (bif iBeq (addE O (cz (chA c)) no h0 h1 rt l 0 i a (O.pbase
    k) e) 0 then hsub 0 h0 a 0 else 0) (bif iBeq (addE O (cz (chA c)) no h0 h1 rt l 0 i a (O.pbase k) e) 0 then hsub 0 h1 a 1 else 0) (bif iBeq (addE O (cz (chA c)) no h0 h1 rt l 0 i a
    (O.pbase k) e) 0 then rt else 0) (bif iBeq (addE O (cz (chA c)) no h0 h1 rt l 0 i a (O.pbase k) e) 0 then insC [0, i, a, O.pbase k, e] l else []) 0 i k) 0 then remC [findC 0 i (bif
    iBeq (addE O (cz (chA c)) no h0 h1 rt l 0 i a (O.pbase k) e) 0 then insC [0, i, a, O.pbase k, e] l else []) 0, findC 0 i (bif iBeq (addE O (cz (chA c)) no h0 h1 rt l 0 i a (O.pbase
    k) e) 0 then insC [0, i, a, O.pbase k, e] l else []) 1, findC 0 i (bif iBeq (addE O (cz (chA c)) no h0 h1 rt l 0 i a (O.pbase k) e) 0 then insC [0, i, a, O.pbase k, e] l else []) 2,
    findC 0 i (bif iBeq (addE O (cz (chA c)) no h0 h1 rt l 0 i a (O.pbase k) e) 0 then insC [0, i, a, O.pbase k, e] l else []) 3, findC 0 i (bif iBeq (addE O (cz (chA c)) no h0 h1 rt l
    0 i a (O.pbase k) e) 0 then insC [0, i, a, O.pbase k, e] l else []) 4] (bif iBeq (addE O (cz (chA c)) no h0 h1 rt l 0 i a (O.pbase k) e) 0 then insC [0, i, a, O.pbase k, e] l else
    []) else []) && l.length.ble 1000 && cnd l) (Value.bool (sameB (bif iBeq (setE O (cz (chA c)) (bif iBeq (addE O (cz (chA c)) no h0 h1 rt l 0 i a (O.pbase k) e) 0 then no else 0)
    (bif iBeq (addE O (cz (chA c)) no h0 h1 rt l 0 i a (O.pbase k) e) 0 then hsub 0 h0 a 0 else 0) (bif iBeq (addE O (cz (chA c)) no h0 h1 rt l 0 i a (O.pbase k) e) 0 then hsub 0 h1 a 1
    else 0) (bif iBeq (addE O (cz (chA c)) no h0 h1 rt l 0 i a (O.pbase k) e) 0 then rt else 0) (bif iBeq (addE O (cz (chA c)) no h0 h1 rt l 0 i a (O.pbase k) e) 0 then insC [0, i, a,
    O.pbase k, e] l else []) 0 i k) 0 then bif iBeq (addE O (cz (chA c)) no h0 h1 rt l 0 i a (O.pbase k) e) 0 then no else 0 else 0) (bif iBeq (setE O (cz (chA c)) (bif iBeq (addE O (cz
    (chA c)) no h0 h1 rt l 0 i a (O.pbase k) e) 0 then no else 0) (bif iBeq (addE O (cz (chA c)) no h0 h1 rt l 0 i a (O.pbase k) e) 0 then hsub 0 h0 a 0 else 0) (bif iBeq (addE O (cz
    (chA c)) no h0 h1 rt l 0 i a (O.pbase k) e) 0 then hsub 0 h1 a 1 else 0) (bif iBeq (addE O (cz (chA c)) no h0 h1 rt l 0 i a (O.pbase k) e) 0 then rt else 0) (bif iBeq (addE O (cz
    (chA c)) no h0 h1 rt l 0 i a (O.pbase k) e) 0 then insC [0, i, a, O.pbase k, e] l else []) 0 i k) 0 then hadd 0 (bif iBeq (addE O (cz (chA c)) no h0 h1 rt l 0 i a (O.pbase k) e) 0
    then hsub 0 h0 a 0 else 0) (findC 0 i (bif iBeq (addE O (cz (chA c)) no h0 h1 rt l 0 i a (O.pbase k) e) 0 then insC [0, i, a, O.pbase k, e] l else []) 2) 1 else 0) (bif iBeq (setE O
    (cz (chA c)) (bif iBeq (addE O (cz (chA c)) no h0 h1 rt l 0 i a (O.pbase k) e) 0 then no else 0) (bif iBeq (addE O (cz (chA c)) no h0 h1 rt l 0 i a (O.pbase k) e) 0 then hsub 0 h0 a
    0 else 0) (bif iBeq (addE O (cz (chA c)) no h0 h1 rt l 0 i a (O.pbase k) e) 0 then hsub 0 h1 a 1 else 0) (bif iBeq (addE O (cz (chA c)) no h0 h1 rt l 0 i a (O.pbase k) e) 0 then rt
    else 0) (bif iBeq (addE O (cz (chA c)) no h0 h1 rt l 0 i a (O.pbase k) e) 0 then insC [0, i, a, O.pbase k, e] l else []) 0 i k) 0 then hadd 0 (bif iBeq (addE O (cz (chA c)) no h0 h1
    rt l 0 i a (O.pbase k) e) 0 then hsub 0 h1 a 1 else 0) (findC 0 i (bif iBeq (addE O (cz (chA c)) no h0 h1 rt l 0 i a (O.pbase k) e) 0 then insC [0, i, a, O.pbase k, e] l else []) 2)
    0 else 0) (bif iBeq (setE O (cz (chA c)) (bif iBeq (addE O (cz (chA c)) no h0 h1 rt l 0 i a (O.pbase k) e) 0 then no else 0) (bif iBeq (addE O (cz (chA c)) no h0 h1 rt l 0 i a
    (O.pbase k) e) 0 then hsub 0 h0 a 0 else 0) (bif iBeq (addE O (cz (chA c)) no h0 h1 rt l 0 i a (O.pbase k) e) 0 then hsub 0 h1 a 1 else 0) (bif iBeq (addE O (cz (chA c)) no h0 h1 rt
    l 0 i a (O.pbase k) e) 0 then rt else 0) (bif iBeq (addE O (cz (chA c)) no h0 h1 rt l 0 i a (O.pbase k) e) 0 then insC [0, i, a, O.pbase k, e] l else []) 0 i k) 0 then bif iBeq
    (addE O (cz (chA c)) no h0 h1 rt l 0 i a (O.pbase k) e) 0 then rt else 0 else 0) (bif iBeq (setE O (cz (chA c)) (bif iBeq (addE O (cz (chA c)) no h0 h1 rt l 0 i a (O.pbase k) e) 0
    then no else 0) (bif iBeq (addE O (cz (chA c)) no h0 h1 rt l 0 i a (O.pbase k) e) 0 then hsub 0 h0 a 0 else 0) (bif iBeq (addE O (cz (chA c)) no h0 h1 rt l 0 i a (O.pbase k) e) 0
    then hsub 0 h1 a 1 else 0) (bif iBeq (addE O (cz (chA c)) no h0 h1 rt l 0 i a (O.pbase k) e) 0 then rt else 0) (bif iBeq (addE O (cz (chA c)) no h0 h1 rt l 0 i a (O.pbase k) e) 0
    then insC [0, i, a, O.pbase k, e] l else []) 0 i k) 0 then remC [findC 0 i (bif iBeq (addE O (cz (chA c)) no h0 h1 rt l 0 i a (O.pbase k) e) 0 then insC [0, i, a, O.pbase k, e] l
    else []) 0, findC 0 i (bif iBeq (addE O (cz (chA c)) no h0 h1 rt l 0 i a (O.pbase k) e) 0 then insC [0, i, a, O.pbase k, e] l else []) 1, findC 0 i (bif iBeq (addE O (cz (chA c)) no
    h0 h1 rt l 0 i a (O.pbase k) e) 0 then insC [0, i, a, O.pbase k, e] l else []) 2, findC 0 i (bif iBeq (addE O (cz (chA c)) no h0 h1 rt l 0 i a (O.pbase k) e) 0 then insC [0, i, a,
    O.pbase k, e] l else []) 3, findC 0 i (bif iBeq (addE O (cz (chA c)) no h0 h1 rt l 0 i a (O.pbase k) e) 0 then insC [0, i, a, O.pbase k, e] l else []) 4] (bif iBeq (addE O (cz (chA
    c)) no h0 h1 rt l 0 i a (O.pbase k) e) 0 then insC [0, i, a, O.pbase k, e] l else []) else []) no (IntKind.i64.wrap (iSub h0 a)) (IntKind.i64.wrap (iAdd h1 a)) rt l) = Value.bool
    true ∧ True ∧ True) False) (Value.bool false = Value.bool true ∧ True ∧ True)) (Value.bool false = Value.bool true ∧ True ∧ True)) False) (Value.bool false = Value.bool true ∧ True
    ∧ True)) (Value.bool false = Value.bool true ∧ True ∧ True)) (Value.bool false = Value.bool true ∧ True ∧ True)) False) False) False)) False) False) := by
  simp only [ec]
  refine Sx.if_both (fun _ => (by first | rfl | trivial)) (fun hf => ?_)
  have l20 := few_len hf
  have l1 : Nat.ble l.length 1000 = true := by rw [Nat.ble_eq]; omega
  refine Sx.if_true g2 (Sx.if_true (by rw [hc, l1, g1, F.pbase]; rfl) (Sx.if_both (fun _ => (by first | rfl | trivial)) (fun hE => ?_)))
  have hE := iBne_ff hE
  have A := add_right hE
  obtain ⟨fi, fj, fr'⟩ := add_found A
  have zE : iBeq (addE O c no h0 h1 rt l 0 i a (O.pbase k) e) 0 = true := by rw [hE]; rfl
  simp only [zE, cond_true]
  have cL := cnd_ins (f := 0) (i := i) (a := a) (e := e) g1 (F.pbase k)
  have lL : (insC [0, i, a, O.pbase k, e] l).length = l.length + 1 := ins_len _ _
  have AR := A.right
  have hw := A.was
  have ha : 1 ≤ a ∧ a ≤ 1125899906842624 := A.fine.2.2.1
  have b0 := hw.bh0
  have b1 := hw.bh1
  have y0 : hadd 0 (hsub 0 h0 a 0) a 0 = h0 := by show IntKind.i64.wrap (IntKind.i64.wrap (h0 - a) + a) = h0; rw [wrap_in (n := h0 - a) (by omega) (by omega), wrap_in (by omega) (by omega)]; omega
  have y1 : hadd 0 (hsub 0 h1 a 1) a 1 = h1 := rfl
  generalize insC [0, i, a, O.pbase k, e] l = L at *
  have l2 : Nat.ble L.length 1000 = true := by rw [Nat.ble_eq, lL]; omega
  have k0 : findC 0 i L 0 = 0 := fj 0
  have k1 : findC 0 i L 1 = i := fj 1
  have k2 : findC 0 i L 2 = a := fj 2
  have k3 : findC 0 i L 3 = O.pbase k := fj 3
  have k4 : findC 0 i L 4 = e := fj 4
  have zF : iBeq (failE O c no (hsub 0 h0 a 0) (hsub 0 h1 a 1) rt L 0 i) 0 = true := by unfold failE; rw [right_iff'.2 AR, fi]; rfl
  have zS : iBeq (setE O c no (hsub 0 h0 a 0) (hsub 0 h1 a 1) rt L 0 i k) 0 = true := by unfold setE; rw [right_iff'.2 AR, fi, k3, show iBne (O.pbase k) (O.pbase k) = false by rw [iBne_f]]; rfl
  simp only [k0, k1, k2, k3, k4, fr', zF, zS, cond_true]
  refine Sx.if_true l2 (Sx.if_true (by rw [hc, l2, cL]; rfl) (Sx.if_true (by rw [hc, l2, cL, g2]; rfl) (Sx.if_true (by rw [fi]; rfl) (Sx.if_true (eqv_q _ _ _ _ _ _) (Sx.if_true rfl (Sx.if_true (by rw [l1, g1]; rfl) (Sx.if_true (by rw [y0, y1]; exact same_self _ _ _ _ _) (Sx.if_true rfl (Sx.if_true (by rw [l1, g1]; rfl) ⟨congrArg Value.bool (same_self _ _ _ _ _), (by first | rfl | trivial)⟩)))))))))
theorem wpc_sback0 (O : OO) (Y : OY) (c : Nat → Int) (no h0 h1 rt : Int) (l : List (List Int)) (i a q e k : Int) (F : FO O) (hy : Y = yO O) (hc : chB (chA c) = true) (g0 : Nat.ble l.length 9223372036854775807 = true) (g1 : cnd l = true) (g2 : inU k 18446744073709551616 = true) (ec : cz (chA c) = c) : wpcI Try.prog (spS21 O Y) Try.f3.ntmps [] (bodyOf Try.f3) 0 64 (envP (mks [.v, .agg [.v, .v, .v, .roS [.i64, .i64, .i64, .u64, .i64], .v], .v, .v] [.v (.agg (chA c)), .node [.v (.int .i64 no), .v (.int .i64 h0), .v (.int .i64 h1), .structs l, .v (.int .i64 rt)], .v (.agg ⟨[.int .i64 0, .int .i64 i, .int .i64 a, .int .u64 q, .int .i64 e]⟩), .v (.int .u64 k)] 0).1 0) (mks [.v, .agg [.v, .v, .v, .roS [.i64, .i64, .i64, .u64, .i64], .v], .v, .v] [.v (.agg (chA c)), .node [.v (.int .i64 no), .v (.int .i64 h0), .v (.int .i64 h1), .structs l, .v (.int .i64 rt)], .v (.agg ⟨[.int .i64 0, .int .i64 i, .int .i64 a, .int .u64 q, .int .i64 e]⟩), .v (.int .u64 k)] 0).2 (retP Try.prog Try.f3.results.toList 12 (⟨[.v (.bool true)], []⟩ : Post)) :=
  Eq.mpr (by kernel_rfl) (vc_sback0 O Y c no h0 h1 rt l i a q e k F hy hc g0 g1 g2 ec)
theorem ok_sback0 (I : Sx.Interp) (O : OO) (hO : O = oo) (Y : OY) (hY : Y = yO O) : Sx.SpecOK I Try.prog 3 (pspec [.v, .agg [.v, .v, .v, .roS [.i64, .i64, .i64, .u64, .i64], .v], .v, .v] false (g_sback0 O Y)) := by
  refine spec_patI (spS21_ok I O hO Y hY) (by kernel_rfl) (fun ds => match ds with | [.v (.agg ch), .node [.v (.int .i64 no), .v (.int .i64 h0), .v (.int .i64 h1), .structs l, .v (.int .i64 rt)], .v (.agg ⟨[.int .i64 0, .int .i64 i, .int .i64 a, .int .u64 q, .int .i64 e]⟩), .v (.int .u64 k)] => [] | _ => []) Try.func3 (by kernel_rfl) (by kernel_rfl) rfl Try.ntmps3 (by decide) ?_ ?_
  · intro ds p bs F h
    unfold g_sback0 at h
    split at h
    · simp only [Option.some.injEq, Prod.mk.injEq] at h
      obtain ⟨_, _, rfl⟩ := h
      kernel_rfl
    · cases h
  · intro ds bs F hl h
    unfold g_sback0 at h
    split at h
    · rename_i ch no h0 h1 l rt i a q e k
      simp only [Option.some.injEq, Prod.mk.injEq, Bool.and_eq_true] at h
      obtain ⟨⟨⟨⟨hc, g0⟩, g1⟩, g2⟩, _, rfl⟩ := h
      obtain ⟨c, ec, rfl⟩ : ∃ c, cz ch = c ∧ ch = chA c := ⟨_, rfl, chB_eq hc⟩
      simp only [ec]
      exact wpc_sback0 O Y c no h0 h1 rt l i a q e k (fo_oo O hO) hY hc g0 g1 g2 (ec)
    · cases h
def g_sback1 (O : OO) (Y : OY) (ds : List Dt) : Option (Bool × List Bool × (List Bool → Post)) := match ds with
  | [.v (.agg ch), .node [.v (.int .i64 no), .v (.int .i64 h0), .v (.int .i64 h1), .structs l, .v (.int .i64 rt)], .v (.agg ⟨[.int .i64 1, .int .i64 i, .int .i64 a, .int .u64 q, .int .i64 e]⟩), .v (.int .u64 k)] => some ((chB ch) && (Nat.ble l.length 9223372036854775807) && (cnd l) && (inU k 18446744073709551616), [], fun _ => ⟨[.v (.bool true)], []⟩)
  | _ => none
set_option maxHeartbeats 4000000 in
theorem vc_sback1 (O : OO) (Y : OY) (c : Nat → Int) (no h0 h1 rt : Int) (l : List (List Int)) (i a q e k : Int) (F : FO O) (hy : Y = yO O) (hc : chB (chA c) = true) (g0 : Nat.ble l.length 9223372036854775807 = true) (g1 : cnd l = true) (g2 : inU k 18446744073709551616 = true) (ec : cz (chA c) = c) :
  If (!fewB h0 h1 rt l) (Value.bool true = Value.bool true ∧ True ∧ True) (If (inU k 18446744073709551616) (If (chB (chA c) && l.length.ble 1000 && cnd l && inU (O.pbase k)
    18446744073709551616) (If (iBne (addE O (cz (chA c)) no h0 h1 rt l 1 i a (O.pbase k) e) 0) (Value.bool true = Value.bool true ∧ True ∧ True) (If ((bif iBeq (addE O (cz (chA c)) no
    h0 h1 rt l 1 i a (O.pbase k) e) 0 then insC [1, i, a, O.pbase k, e] l else []).length.ble 1000) (If (chB (chA c) && (bif iBeq (addE O (cz (chA c)) no h0 h1 rt l 1 i a (O.pbase k) e)
    0 then insC [1, i, a, O.pbase k, e] l else []).length.ble 1000 && cnd (bif iBeq (addE O (cz (chA c)) no h0 h1 rt l 1 i a (O.pbase k) e) 0 then insC [1, i, a, O.pbase k, e] l else
    [])) (If (chB (chA c) && (bif iBeq (addE O (cz (chA c)) no h0 h1 rt l 1 i a (O.pbase k) e) 0 then insC [1, i, a, O.pbase k, e] l else []).length.ble 1000 && cnd (bif iBeq (addE O
    (cz (chA c)) no h0 h1 rt l 1 i a (O.pbase k) e) 0 then insC [1, i, a, O.pbase k, e] l else []) && inU k 18446744073709551616) (If (!iLt (idxS (matchF 1 i) (bif iBeq (addE O (cz (chA
    c)) no h0 h1 rt l 1 i a (O.pbase k) e) 0 then insC [1, i, a, O.pbase k, e] l else [])) 0) (If (eqv (Array.mk [Value.int .i64 (findC 1 i (bif iBeq (addE O (cz (chA c)) no h0 h1 rt l
    1 i a (O.pbase k) e) 0 then insC [1, i, a, O.pbase k, e] l else []) 0), Value.int .i64 (findC 1 i (bif iBeq (addE O (cz (chA c)) no h0 h1 rt l 1 i a (O.pbase k) e) 0 then insC [1,
    i, a, O.pbase k, e] l else []) 1), Value.int .i64 (findC 1 i (bif iBeq (addE O (cz (chA c)) no h0 h1 rt l 1 i a (O.pbase k) e) 0 then insC [1, i, a, O.pbase k, e] l else []) 2),
    Value.int .u64 (findC 1 i (bif iBeq (addE O (cz (chA c)) no h0 h1 rt l 1 i a (O.pbase k) e) 0 then insC [1, i, a, O.pbase k, e] l else []) 3), Value.int .i64 (findC 1 i (bif iBeq
    (addE O (cz (chA c)) no h0 h1 rt l 1 i a (O.pbase k) e) 0 then insC [1, i, a, O.pbase k, e] l else []) 4)]) (Array.mk ([Value.int .i64 1, Value.int .i64 i, Value.int .i64 a,
    Value.int .u64 q, Value.int .i64 e].set 3 (Value.int .u64 (O.pbase k))))) (If (iBeq (failE O (cz (chA c)) (bif iBeq (addE O (cz (chA c)) no h0 h1 rt l 1 i a (O.pbase k) e) 0 then no
    else 0) (bif iBeq (addE O (cz (chA c)) no h0 h1 rt l 1 i a (O.pbase k) e) 0 then hsub 1 h0 a 0 else 0) (bif iBeq (addE O (cz (chA c)) no h0 h1 rt l 1 i a (O.pbase k) e) 0 then hsub
    1 h1 a 1 else 0) (bif iBeq (addE O (cz (chA c)) no h0 h1 rt l 1 i a (O.pbase k) e) 0 then rt else 0) (bif iBeq (addE O (cz (chA c)) no h0 h1 rt l 1 i a (O.pbase k) e) 0 then insC
    [1, i, a, O.pbase k, e] l else []) 1 i) 0) (If ((bif iBeq (failE O (cz (chA c)) (bif iBeq (addE O (cz (chA c)) no h0 h1 rt l 1 i a (O.pbase k) e) 0 then no else 0) (bif iBeq (addE O
    (cz (chA c)) no h0 h1 rt l 1 i a (O.pbase k) e) 0 then hsub 1 h0 a 0 else 0) (bif iBeq (addE O (cz (chA c)) no h0 h1 rt l 1 i a (O.pbase k) e) 0 then hsub 1 h1 a 1 else 0) (bif iBeq
    (addE O (cz (chA c)) no h0 h1 rt l 1 i a (O.pbase k) e) 0 then rt else 0) (bif iBeq (addE O (cz (chA c)) no h0 h1 rt l 1 i a (O.pbase k) e) 0 then insC [1, i, a, O.pbase k, e] l
    else []) 1 i) 0 then remC [findC 1 i (bif iBeq (addE O (cz (chA c)) no h0 h1 rt l 1 i a (O.pbase k) e) 0 then insC [1, i, a, O.pbase k, e] l else []) 0, findC 1 i (bif iBeq (addE O
    (cz (chA c)) no h0 h1 rt l 1 i a (O.pbase k) e) 0 then insC [1, i, a, O.pbase k, e] l else []) 1, findC 1 i (bif iBeq (addE O (cz (chA c)) no h0 h1 rt l 1 i a (O.pbase k) e) 0 then
    insC [1, i, a, O.pbase k, e] l else []) 2, findC 1 i (bif iBeq (addE O (cz (chA c)) no h0 h1 rt l 1 i a (O.pbase k) e) 0 then insC [1, i, a, O.pbase k, e] l else []) 3, findC 1 i
    (bif iBeq (addE O (cz (chA c)) no h0 h1 rt l 1 i a (O.pbase k) e) 0 then insC [1, i, a, O.pbase k, e] l else []) 4] (bif iBeq (addE O (cz (chA c)) no h0 h1 rt l 1 i a (O.pbase k) e)
    0 then insC [1, i, a, O.pbase k, e] l else []) else []).length.ble 1000 && cnd (bif iBeq (failE O (cz (chA c)) (bif iBeq (addE O (cz (chA c)) no h0 h1 rt l 1 i a (O.pbase k) e) 0
    then no else 0) (bif iBeq (addE O (cz (chA c)) no h0 h1 rt l 1 i a (O.pbase k) e) 0 then hsub 1 h0 a 0 else 0) (bif iBeq (addE O (cz (chA c)) no h0 h1 rt l 1 i a (O.pbase k) e) 0
    then hsub 1 h1 a 1 else 0) (bif iBeq (addE O (cz (chA c)) no h0 h1 rt l 1 i a (O.pbase k) e) 0 then rt else 0) (bif iBeq (addE O (cz (chA c)) no h0 h1 rt l 1 i a (O.pbase k) e) 0
    then insC [1, i, a, O.pbase k, e] l else []) 1 i) 0 then remC [findC 1 i (bif iBeq (addE O (cz (chA c)) no h0 h1 rt l 1 i a (O.pbase k) e) 0 then insC [1, i, a, O.pbase k, e] l else
    []) 0, findC 1 i (bif iBeq (addE O (cz (chA c)) no h0 h1 rt l 1 i a (O.pbase k) e) 0 then insC [1, i, a, O.pbase k, e] l else []) 1, findC 1 i (bif iBeq (addE O (cz (chA c)) no h0
    h1 rt l 1 i a (O.pbase k) e) 0 then insC [1, i, a, O.pbase k, e] l else []) 2, findC 1 i (bif iBeq (addE O (cz (chA c)) no h0 h1 rt l 1 i a (O.pbase k) e) 0 then insC [1, i, a,
    O.pbase k, e] l else []) 3, findC 1 i (bif iBeq (addE O (cz (chA c)) no h0 h1 rt l 1 i a (O.pbase k) e) 0 then insC [1, i, a, O.pbase k, e] l else []) 4] (bif iBeq (addE O (cz (chA
    c)) no h0 h1 rt l 1 i a (O.pbase k) e) 0 then insC [1, i, a, O.pbase k, e] l else []) else []) && l.length.ble 1000 && cnd l) (If (sameB (bif iBeq (failE O (cz (chA c)) (bif iBeq
    (addE O (cz (chA c)) no h0 h1 rt l 1 i a (O.pbase k) e) 0 then no else 0) (bif iBeq (addE O (cz (chA c)) no h0 h1 rt l 1 i a (O.pbase k) e) 0 then hsub 1 h0 a 0 else 0) (bif iBeq
    (addE O (cz (chA c)) no h0 h1 rt l 1 i a (O.pbase k) e) 0 then hsub 1 h1 a 1 else 0) (bif iBeq (addE O (cz (chA c)) no h0 h1 rt l 1 i a (O.pbase k) e) 0 then rt else 0) (bif iBeq
    (addE O (cz (chA c)) no h0 h1 rt l 1 i a (O.pbase k) e) 0 then insC [1, i, a, O.pbase k, e] l else []) 1 i) 0 then bif iBeq (addE O (cz (chA c)) no h0 h1 rt l 1 i a (O.pbase k) e) 0
    then no else 0 else 0) (bif iBeq (failE O (cz (chA c)) (bif iBeq (addE O (cz (chA c)) no h0 h1 rt l 1 i a (O.pbase k) e) 0 then no else 0) (bif iBeq (addE O (cz (chA c)) no h0 h1 rt
    l 1 i a (O.pbase k) e) 0 then hsub 1 h0 a 0 else 0) (bif iBeq (addE O (cz (chA c)) no h0 h1 rt l 1 i a (O.pbase k) e) 0 then hsub 1 h1 a 1 else 0) (bif iBeq (addE O (cz (chA c)) no
    h0 h1 rt l 1 i a (O.pbase k) e) 0 then rt else 0) (bif iBeq (addE O (cz (chA c)) no h0 h1 rt l 1 i a (O.pbase k) e) 0 then insC [1, i, a, O.pbase k, e] l else []) 1 i) 0 then hadd 1
    (bif iBeq (addE O (cz (chA c)) no h0 h1 rt l 1 i a (O.pbase k) e) 0 then hsub 1 h0 a 0 else 0) (findC 1 i (bif iBeq (addE O (cz (chA c)) no h0 h1 rt l 1 i a (O.pbase k) e) 0 then
    insC [1, i, a, O.pbase k, e] l else []) 2) 0 else 0) (bif iBeq (failE O (cz (chA c)) (bif iBeq (addE O (cz (chA c)) no h0 h1 rt l 1 i a (O.pbase k) e) 0 then no else 0) (bif iBeq
    (addE O (cz (chA c)) no h0 h1 rt l 1 i a (O.pbase k) e) 0 then hsub 1 h0 a 0 else 0) (bif iBeq (addE O (cz (chA c)) no h0 h1 rt l 1 i a (O.pbase k) e) 0 then hsub 1 h1 a 1 else 0)
    (bif iBeq (addE O (cz (chA c)) no h0 h1 rt l 1 i a (O.pbase k) e) 0 then rt else 0) (bif iBeq (addE O (cz (chA c)) no h0 h1 rt l 1 i a (O.pbase k) e) 0 then insC [1, i, a, O.pbase
    k, e] l else []) 1 i) 0 then hadd 1 (bif iBeq (addE O (cz (chA c)) no h0 h1 rt l 1 i a (O.pbase k) e) 0 then hsub 1 h1 a 1 else 0) (findC 1 i (bif iBeq (addE O (cz (chA c)) no h0 h1
    rt l 1 i a (O.pbase k) e) 0 then insC [1, i, a, O.pbase k, e] l else []) 2) 1 else 0) (bif iBeq (failE O (cz (chA c)) (bif iBeq (addE O (cz (chA c)) no h0 h1 rt l 1 i a (O.pbase k)
    e) 0 then no else 0) (bif iBeq (addE O (cz (chA c)) no h0 h1 rt l 1 i a (O.pbase k) e) 0 then hsub 1 h0 a 0 else 0) (bif iBeq (addE O (cz (chA c)) no h0 h1 rt l 1 i a (O.pbase k) e)
    0 then hsub 1 h1 a 1 else 0) (bif iBeq (addE O (cz (chA c)) no h0 h1 rt l 1 i a (O.pbase k) e) 0 then rt else 0) (bif iBeq (addE O (cz (chA c)) no h0 h1 rt l 1 i a (O.pbase k) e) 0
    then insC [1, i, a, O.pbase k, e] l else []) 1 i) 0 then bif iBeq (addE O (cz (chA c)) no h0 h1 rt l 1 i a (O.pbase k) e) 0 then rt else 0 else 0) (bif iBeq (failE O (cz (chA c))
    (bif iBeq (addE O (cz (chA c)) no h0 h1 rt l 1 i a (O.pbase k) e) 0 then no else 0) (bif iBeq (addE O (cz (chA c)) no h0 h1 rt l 1 i a (O.pbase k) e) 0 then hsub 1 h0 a 0 else 0)
    (bif iBeq (addE O (cz (chA c)) no h0 h1 rt l 1 i a (O.pbase k) e) 0 then hsub 1 h1 a 1 else 0) (bif iBeq (addE O (cz (chA c)) no h0 h1 rt l 1 i a (O.pbase k) e) 0 then rt else 0)
    (bif iBeq (addE O (cz (chA c)) no h0 h1 rt l 1 i a (O.pbase k) e) 0 then insC [1, i, a, O.pbase k, e] l else []) 1 i) 0 then remC [findC 1 i (bif iBeq (addE O (cz (chA c)) no h0 h1
    rt l 1 i a (O.pbase k) e) 0 then insC [1, i, a, O.pbase k, e] l else []) 0, findC 1 i (bif iBeq (addE O (cz (chA c)) no h0 h1 rt l 1 i a (O.pbase k) e) 0 then insC [1, i, a, O.pbase
    k, e] l else []) 1, findC 1 i (bif iBeq (addE O (cz (chA c)) no h0 h1 rt l 1 i a (O.pbase k) e) 0 then insC [1, i, a, O.pbase k, e] l else []) 2, findC 1 i (bif iBeq (addE O (cz
    (chA c)) no h0 h1 rt l 1 i a (O.pbase k) e) 0 then insC [1, i, a, O.pbase k, e] l else []) 3, findC 1 i (bif iBeq (addE O (cz (chA c)) no h0 h1 rt l 1 i a (O.pbase k) e) 0 then insC
    [1, i, a, O.pbase k, e] l else []) 4] (bif iBeq (addE O (cz (chA c)) no h0 h1 rt l 1 i a (O.pbase k) e) 0 then insC [1, i, a, O.pbase k, e] l else []) else []) no h0 h1 rt l) (If
    (iBeq (setE O (cz (chA c)) (bif iBeq (addE O (cz (chA c)) no h0 h1 rt l 1 i a (O.pbase k) e) 0 then no else 0) (bif iBeq (addE O (cz (chA c)) no h0 h1 rt l 1 i a (O.pbase k) e) 0
    then hsub 1 h0 a 0 else 0) (bif iBeq (addE O (cz (chA c)) no h0 h1 rt l 1 i a (O.pbase k) e) 0 then hsub 1 h1 a 1 else 0) (bif iBeq (addE O (cz (chA c)) no h0 h1 rt l 1 i a (O.pbase
    k) e) 0 then rt else 0) (bif iBeq (addE O (cz (chA c)) no h0 h1 rt l 1 i a (O.pbase k) e) 0 then insC [1, i, a, O.pbase k, e] l else []) 1 i k) 0) (If ((bif iBeq (setE O (cz (chA
    c)) (bif iBeq (addE O (cz (chA c)) no h0 h1 rt l 1 i a (O.pbase k) e) 0 then no else 0) (bif iBeq (addE O (cz (chA c)) no h0 h1 rt l 1 i a (O.pbase k) e) 0 then hsub 1 h0 a 0 else
    0) (bif iBeq (addE O (cz (chA c)) no h0 h1 rt l 1 i a (O.pbase k) e) 0 then hsub 1 h1 a 1 else 0) (bif iBeq (addE O (cz (chA c)) no h0 h1 rt l 1 i a (O.pbase k) e) 0 then rt else 0)
    (bif iBeq (addE O (cz (chA c)) no h0 h1 rt l 1 i a (O.pbase k) e) 0 then insC [1, i, a, O.pbase k, e] l else []) 1 i k) 0 then remC [findC 1 i (bif iBeq (addE O (cz (chA c)) no h0
    h1 rt l 1 i a (O.pbase k) e) 0 then insC [1, i, a, O.pbase k, e] l else []) 0, findC 1 i (bif iBeq (addE O (cz (chA c)) no h0 h1 rt l 1 i a (O.pbase k) e) 0 then insC [1, i, a,
    O.pbase k, e] l else []) 1, findC 1 i (bif iBeq (addE O (cz (chA c)) no h0 h1 rt l 1 i a (O.pbase k) e) 0 then insC [1, i, a, O.pbase k, e] l else []) 2, findC 1 i (bif iBeq (addE O
    (cz (chA c)) no h0 h1 rt l 1 i a (O.pbase k) e) 0 then insC [1, i, a, O.pbase k, e] l else []) 3, findC 1 i (bif iBeq (addE O (cz (chA c)) no h0 h1 rt l 1 i a (O.pbase k) e) 0 then
    insC [1, i, a, O.pbase k, e] l else []) 4] (bif iBeq (addE O (cz (chA c)) no h0 h1 rt l 1 i a (O.pbase k) e) 0 then insC [1, i, a, O.pbase k, e] l else []) else []).length.ble 1000
    && cnd (bif iBeq (setE O (cz (chA c)) (bif iBeq (addE O (cz (chA c)) no h0 h1 rt l 1 i a (O.pbase k) e) 0 then no else 0) (bif iBeq (addE O (cz (chA c)) no h0 h1 rt l 1 i a (O.pbase
    k) e) 0 then hsub 1 h0 a 0 else 0) (bif iBeq (addE O (cz (chA c)) no h0 h1 rt l 1 i a (O.pbase k) e) 0 then hsub 1 h1 a 1 else 0) (bif iBeq (addE O (cz (chA c)) no h0 h1 rt l 1 i a
    (O.pbase k) e) 0 then rt else 0) (bif iBeq (addE O (cz (chA c)) no h0 h1 rt l 1 i a (O.pbase k) e) 0 then insC [1, i, a, O.pbase k, e] l else []) 1 i k) 0 then remC [findC 1 i (bif
    iBeq (addE O (cz (chA c)) no h0 h1 rt l 1 i a (O.pbase k) e) 0 then insC [1, i, a, O.pbase k, e] l else []) 0, findC 1 i (bif iBeq (addE O (cz (chA c)) no h0 h1 rt l 1 i a (O.pbase
    k) e) 0 then insC [1, i, a, O.pbase k, e] l else []) 1, findC 1 i (bif iBeq (addE O (cz (chA c)) no h0 h1 rt l 1 i a (O.pbase k) e) 0 then insC [1, i, a, O.pbase k, e] l else []) 2,
    findC 1 i (bif iBeq (addE O (cz (chA c)) no h0 h1 rt l 1 i a (O.pbase k) e) 0 then insC [1, i, a, O.pbase k, e] l else []) 3, findC 1 i (bif iBeq (addE O (cz (chA c)) no h0 h1 rt l
    1 i a (O.pbase k) e) 0 then insC [1, i, a, O.pbase k, e] l else []) 4] (bif iBeq (addE O (cz (chA c)) no h0 h1 rt l 1 i a (O.pbase k) e) 0 then insC [1, i, a, O.pbase k, e] l else
    []) else []) && l.length.ble 1000 && cnd l) (Value.bool (sameB (bif iBeq (setE O (cz (chA c)) (bif iBeq (addE O (cz (chA c)) no h0 h1 rt l 1 i a (O.pbase k) e) 0 then no else 0)
    (bif iBeq (addE O (cz (chA c)) no h0 h1 rt l 1 i a (O.pbase k) e) 0 then hsub 1 h0 a 0 else 0) (bif iBeq (addE O (cz (chA c)) no h0 h1 rt l 1 i a (O.pbase k) e) 0 then hsub 1 h1 a 1
    else 0) (bif iBeq (addE O (cz (chA c)) no h0 h1 rt l 1 i a (O.pbase k) e) 0 then rt else 0) (bif iBeq (addE O (cz (chA c)) no h0 h1 rt l 1 i a (O.pbase k) e) 0 then insC [1, i, a,
    O.pbase k, e] l else []) 1 i k) 0 then bif iBeq (addE O (cz (chA c)) no h0 h1 rt l 1 i a (O.pbase k) e) 0 then no else 0 else 0) (bif iBeq (setE O (cz (chA c)) (bif iBeq (addE O (cz
    (chA c)) no h0 h1 rt l 1 i a (O.pbase k) e) 0 then no else 0) (bif iBeq (addE O (cz (chA c)) no h0 h1 rt l 1 i a (O.pbase k) e) 0 then hsub 1 h0 a 0 else 0) (bif iBeq (addE O (cz
    (chA c)) no h0 h1 rt l 1 i a (O.pbase k) e) 0 then hsub 1 h1 a 1 else 0) (bif iBeq (addE O (cz (chA c)) no h0 h1 rt l 1 i a (O.pbase k) e) 0 then rt else 0) (bif iBeq (addE O (cz
    (chA c)) no h0 h1 rt l 1 i a (O.pbase k) e) 0 then insC [1, i, a, O.pbase k, e] l else []) 1 i k) 0 then hadd 1 (bif iBeq (addE O (cz (chA c)) no h0 h1 rt l 1 i a (O.pbase k) e) 0
    then hsub 1 h0 a 0 else 0) (findC 1 i (bif iBeq (addE O (cz (chA c)) no h0 h1 rt l 1 i a (O.pbase k) e) 0 then insC [1, i, a, O.pbase k, e] l else []) 2) 1 else 0) (bif iBeq (setE O
    (cz (chA c)) (bif iBeq (addE O (cz (chA c)) no h0 h1 rt l 1 i a (O.pbase k) e) 0 then no else 0) (bif iBeq (addE O (cz (chA c)) no h0 h1 rt l 1 i a (O.pbase k) e) 0 then hsub 1 h0 a
    0 else 0) (bif iBeq (addE O (cz (chA c)) no h0 h1 rt l 1 i a (O.pbase k) e) 0 then hsub 1 h1 a 1 else 0) (bif iBeq (addE O (cz (chA c)) no h0 h1 rt l 1 i a (O.pbase k) e) 0 then rt
    else 0) (bif iBeq (addE O (cz (chA c)) no h0 h1 rt l 1 i a (O.pbase k) e) 0 then insC [1, i, a, O.pbase k, e] l else []) 1 i k) 0 then hadd 1 (bif iBeq (addE O (cz (chA c)) no h0 h1
    rt l 1 i a (O.pbase k) e) 0 then hsub 1 h1 a 1 else 0) (findC 1 i (bif iBeq (addE O (cz (chA c)) no h0 h1 rt l 1 i a (O.pbase k) e) 0 then insC [1, i, a, O.pbase k, e] l else []) 2)
    0 else 0) (bif iBeq (setE O (cz (chA c)) (bif iBeq (addE O (cz (chA c)) no h0 h1 rt l 1 i a (O.pbase k) e) 0 then no else 0) (bif iBeq (addE O (cz (chA c)) no h0 h1 rt l 1 i a
    (O.pbase k) e) 0 then hsub 1 h0 a 0 else 0) (bif iBeq (addE O (cz (chA c)) no h0 h1 rt l 1 i a (O.pbase k) e) 0 then hsub 1 h1 a 1 else 0) (bif iBeq (addE O (cz (chA c)) no h0 h1 rt
    l 1 i a (O.pbase k) e) 0 then rt else 0) (bif iBeq (addE O (cz (chA c)) no h0 h1 rt l 1 i a (O.pbase k) e) 0 then insC [1, i, a, O.pbase k, e] l else []) 1 i k) 0 then bif iBeq
    (addE O (cz (chA c)) no h0 h1 rt l 1 i a (O.pbase k) e) 0 then rt else 0 else 0) (bif iBeq (setE O (cz (chA c)) (bif iBeq (addE O (cz (chA c)) no h0 h1 rt l 1 i a (O.pbase k) e) 0
    then no else 0) (bif iBeq (addE O (cz (chA c)) no h0 h1 rt l 1 i a (O.pbase k) e) 0 then hsub 1 h0 a 0 else 0) (bif iBeq (addE O (cz (chA c)) no h0 h1 rt l 1 i a (O.pbase k) e) 0
    then hsub 1 h1 a 1 else 0) (bif iBeq (addE O (cz (chA c)) no h0 h1 rt l 1 i a (O.pbase k) e) 0 then rt else 0) (bif iBeq (addE O (cz (chA c)) no h0 h1 rt l 1 i a (O.pbase k) e) 0
    then insC [1, i, a, O.pbase k, e] l else []) 1 i k) 0 then remC [findC 1 i (bif iBeq (addE O (cz (chA c)) no h0 h1 rt l 1 i a (O.pbase k) e) 0 then insC [1, i, a, O.pbase k, e] l
    else []) 0, findC 1 i (bif iBeq (addE O (cz (chA c)) no h0 h1 rt l 1 i a (O.pbase k) e) 0 then insC [1, i, a, O.pbase k, e] l else []) 1, findC 1 i (bif iBeq (addE O (cz (chA c)) no
    h0 h1 rt l 1 i a (O.pbase k) e) 0 then insC [1, i, a, O.pbase k, e] l else []) 2, findC 1 i (bif iBeq (addE O (cz (chA c)) no h0 h1 rt l 1 i a (O.pbase k) e) 0 then insC [1, i, a,
    O.pbase k, e] l else []) 3, findC 1 i (bif iBeq (addE O (cz (chA c)) no h0 h1 rt l 1 i a (O.pbase k) e) 0 then insC [1, i, a, O.pbase k, e] l else []) 4] (bif iBeq (addE O (cz (chA
    c)) no h0 h1 rt l 1 i a (O.pbase k) e) 0 then insC [1, i, a, O.pbase k, e] l else []) else []) no (IntKind.i64.wrap (iAdd h0 a)) (IntKind.i64.wrap (iSub h1 a)) rt l) = Value.bool
    true ∧ True ∧ True) False) (Value.bool false = Value.bool true ∧ True ∧ True)) (Value.bool false = Value.bool true ∧ True ∧ True)) False) (Value.bool false = Value.bool true ∧ True
    ∧ True)) (Value.bool false = Value.bool true ∧ True ∧ True)) (Value.bool false = Value.bool true ∧ True ∧ True)) False) False) False)) False) False) := by
  simp only [ec]
  refine Sx.if_both (fun _ => (by first | rfl | trivial)) (fun hf => ?_)
  have l20 := few_len hf
  have l1 : Nat.ble l.length 1000 = true := by rw [Nat.ble_eq]; omega
  refine Sx.if_true g2 (Sx.if_true (by rw [hc, l1, g1, F.pbase]; rfl) (Sx.if_both (fun _ => (by first | rfl | trivial)) (fun hE => ?_)))
  have hE := iBne_ff hE
  have A := add_right hE
  obtain ⟨fi, fj, fr'⟩ := add_found A
  have zE : iBeq (addE O c no h0 h1 rt l 1 i a (O.pbase k) e) 0 = true := by rw [hE]; rfl
  simp only [zE, cond_true]
  have cL := cnd_ins (f := 1) (i := i) (a := a) (e := e) g1 (F.pbase k)
  have lL : (insC [1, i, a, O.pbase k, e] l).length = l.length + 1 := ins_len _ _
  have AR := A.right
  have hw := A.was
  have ha : 1 ≤ a ∧ a ≤ 1125899906842624 := A.fine.2.2.1
  have b0 := hw.bh0
  have b1 := hw.bh1
  have y0 : hadd 1 (hsub 1 h0 a 0) a 0 = h0 := rfl
  have y1 : hadd 1 (hsub 1 h1 a 1) a 1 = h1 := by show IntKind.i64.wrap (IntKind.i64.wrap (h1 - a) + a) = h1; rw [wrap_in (n := h1 - a) (by omega) (by omega), wrap_in (by omega) (by omega)]; omega
  generalize insC [1, i, a, O.pbase k, e] l = L at *
  have l2 : Nat.ble L.length 1000 = true := by rw [Nat.ble_eq, lL]; omega
  have k0 : findC 1 i L 0 = 1 := fj 0
  have k1 : findC 1 i L 1 = i := fj 1
  have k2 : findC 1 i L 2 = a := fj 2
  have k3 : findC 1 i L 3 = O.pbase k := fj 3
  have k4 : findC 1 i L 4 = e := fj 4
  have zF : iBeq (failE O c no (hsub 1 h0 a 0) (hsub 1 h1 a 1) rt L 1 i) 0 = true := by unfold failE; rw [right_iff'.2 AR, fi]; rfl
  have zS : iBeq (setE O c no (hsub 1 h0 a 0) (hsub 1 h1 a 1) rt L 1 i k) 0 = true := by unfold setE; rw [right_iff'.2 AR, fi, k3, show iBne (O.pbase k) (O.pbase k) = false by rw [iBne_f]]; rfl
  simp only [k0, k1, k2, k3, k4, fr', zF, zS, cond_true]
  refine Sx.if_true l2 (Sx.if_true (by rw [hc, l2, cL]; rfl) (Sx.if_true (by rw [hc, l2, cL, g2]; rfl) (Sx.if_true (by rw [fi]; rfl) (Sx.if_true (eqv_q _ _ _ _ _ _) (Sx.if_true rfl (Sx.if_true (by rw [l1, g1]; rfl) (Sx.if_true (by rw [y0, y1]; exact same_self _ _ _ _ _) (Sx.if_true rfl (Sx.if_true (by rw [l1, g1]; rfl) ⟨congrArg Value.bool (same_self _ _ _ _ _), (by first | rfl | trivial)⟩)))))))))
theorem wpc_sback1 (O : OO) (Y : OY) (c : Nat → Int) (no h0 h1 rt : Int) (l : List (List Int)) (i a q e k : Int) (F : FO O) (hy : Y = yO O) (hc : chB (chA c) = true) (g0 : Nat.ble l.length 9223372036854775807 = true) (g1 : cnd l = true) (g2 : inU k 18446744073709551616 = true) (ec : cz (chA c) = c) : wpcI Try.prog (spS21 O Y) Try.f3.ntmps [] (bodyOf Try.f3) 0 64 (envP (mks [.v, .agg [.v, .v, .v, .roS [.i64, .i64, .i64, .u64, .i64], .v], .v, .v] [.v (.agg (chA c)), .node [.v (.int .i64 no), .v (.int .i64 h0), .v (.int .i64 h1), .structs l, .v (.int .i64 rt)], .v (.agg ⟨[.int .i64 1, .int .i64 i, .int .i64 a, .int .u64 q, .int .i64 e]⟩), .v (.int .u64 k)] 0).1 0) (mks [.v, .agg [.v, .v, .v, .roS [.i64, .i64, .i64, .u64, .i64], .v], .v, .v] [.v (.agg (chA c)), .node [.v (.int .i64 no), .v (.int .i64 h0), .v (.int .i64 h1), .structs l, .v (.int .i64 rt)], .v (.agg ⟨[.int .i64 1, .int .i64 i, .int .i64 a, .int .u64 q, .int .i64 e]⟩), .v (.int .u64 k)] 0).2 (retP Try.prog Try.f3.results.toList 12 (⟨[.v (.bool true)], []⟩ : Post)) :=
  Eq.mpr (by kernel_rfl) (vc_sback1 O Y c no h0 h1 rt l i a q e k F hy hc g0 g1 g2 ec)
theorem ok_sback1 (I : Sx.Interp) (O : OO) (hO : O = oo) (Y : OY) (hY : Y = yO O) : Sx.SpecOK I Try.prog 3 (pspec [.v, .agg [.v, .v, .v, .roS [.i64, .i64, .i64, .u64, .i64], .v], .v, .v] false (g_sback1 O Y)) := by
  refine spec_patI (spS21_ok I O hO Y hY) (by kernel_rfl) (fun ds => match ds with | [.v (.agg ch), .node [.v (.int .i64 no), .v (.int .i64 h0), .v (.int .i64 h1), .structs l, .v (.int .i64 rt)], .v (.agg ⟨[.int .i64 1, .int .i64 i, .int .i64 a, .int .u64 q, .int .i64 e]⟩), .v (.int .u64 k)] => [] | _ => []) Try.func3 (by kernel_rfl) (by kernel_rfl) rfl Try.ntmps3 (by decide) ?_ ?_
  · intro ds p bs F h
    unfold g_sback1 at h
    split at h
    · simp only [Option.some.injEq, Prod.mk.injEq] at h
      obtain ⟨_, _, rfl⟩ := h
      kernel_rfl
    · cases h
  · intro ds bs F hl h
    unfold g_sback1 at h
    split at h
    · rename_i ch no h0 h1 l rt i a q e k
      simp only [Option.some.injEq, Prod.mk.injEq, Bool.and_eq_true] at h
      obtain ⟨⟨⟨⟨hc, g0⟩, g1⟩, g2⟩, _, rfl⟩ := h
      obtain ⟨c, ec, rfl⟩ : ∃ c, cz ch = c ∧ ch = chA c := ⟨_, rfl, chB_eq hc⟩
      simp only [ec]
      exact wpc_sback1 O Y c no h0 h1 rt l i a q e k (fo_oo O hO) hY hc g0 g1 g2 (ec)
    · cases h
def g_sbackX (O : OO) (Y : OY) (ds : List Dt) : Option (Bool × List Bool × (List Bool → Post)) := match ds with
  | [.v (.agg ch), .node [.v (.int .i64 no), .v (.int .i64 h0), .v (.int .i64 h1), .structs l, .v (.int .i64 rt)], .v (.agg ⟨[.int .i64 f, .int .i64 i, .int .i64 a, .int .u64 q, .int .i64 e]⟩), .v (.int .u64 k)] => some ((chB ch) && (Nat.ble l.length 9223372036854775807) && (cnd l) && (inU k 18446744073709551616) && ((!(allW 0 1 [f]))), [], fun _ => ⟨[.v (.bool true)], []⟩)
  | _ => none
set_option maxHeartbeats 4000000 in
theorem vc_sbackX (O : OO) (Y : OY) (c : Nat → Int) (no h0 h1 rt : Int) (l : List (List Int)) (f i a q e k : Int) (F : FO O) (hy : Y = yO O) (hc : chB (chA c) = true) (g0 : Nat.ble l.length 9223372036854775807 = true) (g1 : cnd l = true) (g2 : inU k 18446744073709551616 = true) (g3 : (!(allW 0 1 [f])) = true) (ec : cz (chA c) = c) :
  If (!fewB h0 h1 rt l) (Value.bool true = Value.bool true ∧ True ∧ True) (If (inU k 18446744073709551616) (If (chB (chA c) && l.length.ble 1000 && cnd l && inU (O.pbase k)
    18446744073709551616 && !allW 0 1 [f]) (Value.bool true = Value.bool true ∧ True ∧ True) False) False) := by
  exact Sx.if_both (fun _ => (by first | rfl | trivial)) (fun hf => by
    have l20 := few_len hf
    have l1 : Nat.ble l.length 1000 = true := by rw [Nat.ble_eq]; omega
    exact Sx.if_true g2 (Sx.if_true (by rw [hc, l1, g1, F.pbase, g3]; rfl) (by first | rfl | trivial)))
theorem wpc_sbackX (O : OO) (Y : OY) (c : Nat → Int) (no h0 h1 rt : Int) (l : List (List Int)) (f i a q e k : Int) (F : FO O) (hy : Y = yO O) (hc : chB (chA c) = true) (g0 : Nat.ble l.length 9223372036854775807 = true) (g1 : cnd l = true) (g2 : inU k 18446744073709551616 = true) (g3 : (!(allW 0 1 [f])) = true) (ec : cz (chA c) = c) : wpcI Try.prog (spS22 O Y) Try.f3.ntmps [] (bodyOf Try.f3) 0 64 (envP (mks [.v, .agg [.v, .v, .v, .roS [.i64, .i64, .i64, .u64, .i64], .v], .v, .v] [.v (.agg (chA c)), .node [.v (.int .i64 no), .v (.int .i64 h0), .v (.int .i64 h1), .structs l, .v (.int .i64 rt)], .v (.agg ⟨[.int .i64 f, .int .i64 i, .int .i64 a, .int .u64 q, .int .i64 e]⟩), .v (.int .u64 k)] 0).1 0) (mks [.v, .agg [.v, .v, .v, .roS [.i64, .i64, .i64, .u64, .i64], .v], .v, .v] [.v (.agg (chA c)), .node [.v (.int .i64 no), .v (.int .i64 h0), .v (.int .i64 h1), .structs l, .v (.int .i64 rt)], .v (.agg ⟨[.int .i64 f, .int .i64 i, .int .i64 a, .int .u64 q, .int .i64 e]⟩), .v (.int .u64 k)] 0).2 (retP Try.prog Try.f3.results.toList 12 (⟨[.v (.bool true)], []⟩ : Post)) :=
  Eq.mpr (by kernel_rfl) (vc_sbackX O Y c no h0 h1 rt l f i a q e k F hy hc g0 g1 g2 g3 ec)
theorem ok_sbackX (I : Sx.Interp) (O : OO) (hO : O = oo) (Y : OY) (hY : Y = yO O) : Sx.SpecOK I Try.prog 3 (pspec [.v, .agg [.v, .v, .v, .roS [.i64, .i64, .i64, .u64, .i64], .v], .v, .v] false (g_sbackX O Y)) := by
  refine spec_patI (spS22_ok I O hO Y hY) (by kernel_rfl) (fun ds => match ds with | [.v (.agg ch), .node [.v (.int .i64 no), .v (.int .i64 h0), .v (.int .i64 h1), .structs l, .v (.int .i64 rt)], .v (.agg ⟨[.int .i64 f, .int .i64 i, .int .i64 a, .int .u64 q, .int .i64 e]⟩), .v (.int .u64 k)] => [] | _ => []) Try.func3 (by kernel_rfl) (by kernel_rfl) rfl Try.ntmps3 (by decide) ?_ ?_
  · intro ds p bs F h
    unfold g_sbackX at h
    split at h
    · simp only [Option.some.injEq, Prod.mk.injEq] at h
      obtain ⟨_, _, rfl⟩ := h
      kernel_rfl
    · cases h
  · intro ds bs F hl h
    unfold g_sbackX at h
    split at h
    · rename_i ch no h0 h1 l rt f i a q e k
      simp only [Option.some.injEq, Prod.mk.injEq, Bool.and_eq_true] at h
      obtain ⟨⟨⟨⟨⟨hc, g0⟩, g1⟩, g2⟩, g3⟩, _, rfl⟩ := h
      obtain ⟨c, ec, rfl⟩ : ∃ c, cz ch = c ∧ ch = chA c := ⟨_, rfl, chB_eq hc⟩
      simp only [ec]
      exact wpc_sbackX O Y c no h0 h1 rt l f i a q e k (fo_oo O hO) hY hc g0 g1 g2 g3 (ec)
    · cases h
end Go.Proofs.Ytgekiddgdjeaiaa
