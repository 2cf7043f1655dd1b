/- SHA-256 of bytes by the symbolic machine: the program's sum, and the sums of a name and parts (VCs printed by VcTool, proofs by hand). -/
import Derived.Test.YtaohpdhhbnempaaHi4
namespace Go.Proofs.Ytaohpdhhbnempaa
open Go.RowKit Go.Lib Sx
open IntKind (i64 u64 u8 i32 u32)
set_option linter.unusedVariables false
set_option linter.unusedSimpArgs false
set_option maxRecDepth 1000000
set_option maxHeartbeats 4000000
def tlI (l : List Int) : List Int := l.drop (l.length - l.length % 64)
def endI (O : OS) (l : List Int) : List Int := tlI l ++ 128 :: List.replicate (zerI l.length) 0 ++ O.be8 (8 * (l.length : Int))
def spP4 (O : OS) (f : FuncId) : Option Sx.Spec := match f with
 | 65 => some (gspec [.ro .u8] g_clone)
 | 73 => some (gspec [.own 5 .u8, .v] (g_long O))
 | 74 => some (gspec [] (g_val (cellsOf .u32 HI)))
 | 75 => some (gspec [.v, .ro .u8] (g_mix ⟨O.mix⟩))
 | _ => none
abbrev v8 (x : Nat → Int) : Array Value := ⟨[.int .u32 (x 0), .int .u32 (x 1), .int .u32 (x 2), .int .u32 (x 3), .int .u32 (x 4), .int .u32 (x 5), .int .u32 (x 6), .int .u32 (x 7)]⟩
def anP4 (O : OS) (l : List Int) (e8 e1 : TypeId) : List Ann := [
 ⟨Nat, [0, 2], [(3, e1, .ints .u8 [])], fun B _ => [(3, .row B)], fun B j => [(B, .own e1 (.ints .u8 (tlI l ++ 128 :: List.replicate j 0)))], fun j => j ≤ zerI l.length, fun j => zerI l.length - j, 0⟩,
 ⟨Nat × (Nat → Int), [2, 3], [(4, e8, .ints .u32 []), (0, e1, .ints .u8 [])], fun B x => [(4, .ptr B 0), (0, .row (B+1))], fun B x => [(B, .arr e8 8 (v8 x.2)), (B+1, .ro (.ints .u8 (l.drop (64 * x.1))))], fun x => 64 * x.1 ≤ l.length ∧ w8 x.2 = stI O (O.pad l) x.1, fun x => l.length - x.1, 0⟩,
 ⟨Nat × (Nat → Int), [2], [(4, e8, .ints .u32 []), (3, e1, .ints .u8 [])], fun B x => [(4, .ptr B 0), (3, .row (B+1))], fun B x => [(B, .arr e8 8 (v8 x.2)), (B+1, .ro (.ints .u8 ((endI O l).drop (64 * x.1))))], fun x => 64 * x.1 ≤ (endI O l).length ∧ w8 x.2 = stI O (O.pad l) (l.length / 64 + x.1), fun x => (endI O l).length - x.1, 0⟩,
 Ann.walk 33]
theorem vc_psum (O : OS) (l out : List Int) (hl : l.length ≤ 1099511627776) (hb : ∀ n, (O.be8 n).length = 8) (h1 : ∀ n, 64 * (n + 1) ≤ l.length → ((O.pad l).drop (64 * n)).take 64 = (l.drop (64 * n)).take 64) (h2 : ∀ n, ((O.pad l).drop (64 * (l.length / 64 + n))).take 64 = ((endI O l).drop (64 * n)).take 64) (h3 : (O.pad l).length = 64 * (l.length / 64) + (endI O l).length) (h4 : (endI O l).length % 64 = 0) (ho : out = outI (stI O (O.pad l) ((O.pad l).length / 64))) :
 let T1 := List.take (nSub (iOf l.length).toNat (i64.wrap (iSub (iOf l.length) ((iOf l.length).tmod 64))).toNat) (List.drop (i64.wrap (iSub (iOf l.length) ((iOf l.length).tmod 64))).toNat l);
  let T2 := O.be8 (i64.wrap (iMul 8 (iOf l.length))); let T3 := i64.wrap (iSub (iOf (Cont.ints .u8 l).n) ((iOf (Cont.ints .u8 l).n).tmod 64)); If (iLe 0 T3 && iLe T3
  (iOf (Cont.ints .u8 l).n) && iLe (iOf (Cont.ints .u8 l).n) (iOf (Cont.ints .u8 l).n)) (If (T1.length.ble 1099511627776) (If ((nMul (nAdd T1.length 1) 1).ble 140737488355328 && (nAdd
  T1.length 1).ble 9223372036854775807) ((∃ (x : Nat), x ≤ zerI l.length ∧ True ∧ EqI (app T1 [128]) (app (tlI l) (128 :: List.replicate x 0)) ∧ Array.mk [Value.int .u8 0, Value.int
  .u8 0, Value.int .u8 0, Value.int .u8 0, Value.int .u8 0, Value.int .u8 0, Value.int .u8 0, Value.int .u8 0, Value.int .u8 0, Value.int .u8 0, Value.int .u8 0, Value.int .u8 0,
  Value.int .u8 0, Value.int .u8 0, Value.int .u8 0, Value.int .u8 0, Value.int .u8 0, Value.int .u8 0, Value.int .u8 0, Value.int .u8 0, Value.int .u8 0, Value.int .u8 0, Value.int
  .u8 0, Value.int .u8 0, Value.int .u8 0, Value.int .u8 0, Value.int .u8 0, Value.int .u8 0, Value.int .u8 0, Value.int .u8 0, Value.int .u8 0, Value.int .u8 0] = Array.mk [Value.int
  .u8 0, Value.int .u8 0, Value.int .u8 0, Value.int .u8 0, Value.int .u8 0, Value.int .u8 0, Value.int .u8 0, Value.int .u8 0, Value.int .u8 0, Value.int .u8 0, Value.int .u8 0,
  Value.int .u8 0, Value.int .u8 0, Value.int .u8 0, Value.int .u8 0, Value.int .u8 0, Value.int .u8 0, Value.int .u8 0, Value.int .u8 0, Value.int .u8 0, Value.int .u8 0, Value.int
  .u8 0, Value.int .u8 0, Value.int .u8 0, Value.int .u8 0, Value.int .u8 0, Value.int .u8 0, Value.int .u8 0, Value.int .u8 0, Value.int .u8 0, Value.int .u8 0, Value.int .u8 0] ∧
  EqI l l ∧ True) ∧ ∀ (x : Nat), x ≤ zerI l.length → If (iBne ((iOf (app (tlI l) (128 :: List.replicate x 0)).length).tmod 64) 56) (If ((nMul (nAdd (app (tlI l) (128 :: List.replicate
  x 0)).length 1) 1).ble 140737488355328 && (nAdd (app (tlI l) (128 :: List.replicate x 0)).length 1).ble 9223372036854775807) (∃ (x' : Nat), x' ≤ zerI l.length ∧ (nSub (zerI
  l.length) x').succ ≤ nSub (zerI l.length) x ∧ True ∧ EqI (app (app (tlI l) (128 :: List.replicate x 0)) [0]) (app (tlI l) (128 :: List.replicate x' 0)) ∧ Array.mk [Value.int .u8 0,
  Value.int .u8 0, Value.int .u8 0, Value.int .u8 0, Value.int .u8 0, Value.int .u8 0, Value.int .u8 0, Value.int .u8 0, Value.int .u8 0, Value.int .u8 0, Value.int .u8 0, Value.int
  .u8 0, Value.int .u8 0, Value.int .u8 0, Value.int .u8 0, Value.int .u8 0, Value.int .u8 0, Value.int .u8 0, Value.int .u8 0, Value.int .u8 0, Value.int .u8 0, Value.int .u8 0,
  Value.int .u8 0, Value.int .u8 0, Value.int .u8 0, Value.int .u8 0, Value.int .u8 0, Value.int .u8 0, Value.int .u8 0, Value.int .u8 0, Value.int .u8 0, Value.int .u8 0] = Array.mk
  [Value.int .u8 0, Value.int .u8 0, Value.int .u8 0, Value.int .u8 0, Value.int .u8 0, Value.int .u8 0, Value.int .u8 0, Value.int .u8 0, Value.int .u8 0, Value.int .u8 0, Value.int
  .u8 0, Value.int .u8 0, Value.int .u8 0, Value.int .u8 0, Value.int .u8 0, Value.int .u8 0, Value.int .u8 0, Value.int .u8 0, Value.int .u8 0, Value.int .u8 0, Value.int .u8 0,
  Value.int .u8 0, Value.int .u8 0, Value.int .u8 0, Value.int .u8 0, Value.int .u8 0, Value.int .u8 0, Value.int .u8 0, Value.int .u8 0, Value.int .u8 0, Value.int .u8 0, Value.int
  .u8 0] ∧ EqI l l ∧ True) False) (If ((app (tlI l) (128 :: List.replicate x 0)).length.ble 2199023255552) ((∃ (x_1 : Nat × (Nat → Int)), (nMul 64 x_1.1 ≤ l.length ∧ EqI [x_1.2 0,
  x_1.2 1, x_1.2 2, x_1.2 3, x_1.2 4, x_1.2 5, x_1.2 6, x_1.2 7] (stI O (O.pad l) x_1.1)) ∧ True ∧ Array.mk (List.map (Value.int .u32) HI) = Array.mk [Value.int .u32 (x_1.2 0),
  Value.int .u32 (x_1.2 1), Value.int .u32 (x_1.2 2), Value.int .u32 (x_1.2 3), Value.int .u32 (x_1.2 4), Value.int .u32 (x_1.2 5), Value.int .u32 (x_1.2 6), Value.int .u32 (x_1.2 7)]
  ∧ EqI l (List.drop (nMul 64 x_1.1) l) ∧ EqI (app (app (tlI l) (128 :: List.replicate x 0)) T2) (app (app (tlI l) (128 :: List.replicate x 0)) T2) ∧ Array.mk [Value.int .u8 0,
  Value.int .u8 0, Value.int .u8 0, Value.int .u8 0, Value.int .u8 0, Value.int .u8 0, Value.int .u8 0, Value.int .u8 0, Value.int .u8 0, Value.int .u8 0, Value.int .u8 0, Value.int
  .u8 0, Value.int .u8 0, Value.int .u8 0, Value.int .u8 0, Value.int .u8 0, Value.int .u8 0, Value.int .u8 0, Value.int .u8 0, Value.int .u8 0, Value.int .u8 0, Value.int .u8 0,
  Value.int .u8 0, Value.int .u8 0, Value.int .u8 0, Value.int .u8 0, Value.int .u8 0, Value.int .u8 0, Value.int .u8 0, Value.int .u8 0, Value.int .u8 0, Value.int .u8 0] = Array.mk
  [Value.int .u8 0, Value.int .u8 0, Value.int .u8 0, Value.int .u8 0, Value.int .u8 0, Value.int .u8 0, Value.int .u8 0, Value.int .u8 0, Value.int .u8 0, Value.int .u8 0, Value.int
  .u8 0, Value.int .u8 0, Value.int .u8 0, Value.int .u8 0, Value.int .u8 0, Value.int .u8 0, Value.int .u8 0, Value.int .u8 0, Value.int .u8 0, Value.int .u8 0, Value.int .u8 0,
  Value.int .u8 0, Value.int .u8 0, Value.int .u8 0, Value.int .u8 0, Value.int .u8 0, Value.int .u8 0, Value.int .u8 0, Value.int .u8 0, Value.int .u8 0, Value.int .u8 0, Value.int
  .u8 0] ∧ True) ∧ ∀ (x_1 : Nat × (Nat → Int)), nMul 64 x_1.1 ≤ l.length ∧ EqI [x_1.2 0, x_1.2 1, x_1.2 2, x_1.2 3, x_1.2 4, x_1.2 5, x_1.2 6, x_1.2 7] (stI O (O.pad l) x_1.1) → If
  (iLe 64 (iOf (Cont.ints .u8 (List.drop (nMul 64 x_1.fst) l)).n)) (If (iLe 0 0 && iLe 0 64 && iLe 64 (iOf (Cont.ints .u8 (List.drop (nMul 64 x_1.fst) l)).n)) (If ((List.take 64
  (List.drop 0 (List.drop (nMul 64 x_1.1) l))).length.beq 64) (If (iLe 0 64 && iLe 64 (iOf (Cont.ints .u8 (List.drop (nMul 64 x_1.fst) l)).n) && iLe (iOf (Cont.ints .u8 (List.drop
  (nMul 64 x_1.fst) l)).n) (iOf (Cont.ints .u8 (List.drop (nMul 64 x_1.fst) l)).n)) (∃ (x' : Nat × (Nat → Int)), (nMul 64 x'.1 ≤ l.length ∧ EqI [x'.2 0, x'.2 1, x'.2 2, x'.2 3, x'.2
  4, x'.2 5, x'.2 6, x'.2 7] (stI O (O.pad l) x'.1)) ∧ (nSub l.length x'.1).succ ≤ nSub l.length x_1.1 ∧ True ∧ Array.mk (List.map (Value.int .u32) (tabI (O.mix (List.take 64
  (List.drop 0 (List.drop (nMul 64 x_1.1) l))) [x_1.2 0, x_1.2 1, x_1.2 2, x_1.2 3, x_1.2 4, x_1.2 5, x_1.2 6, x_1.2 7]) 8)) = Array.mk [Value.int .u32 (x'.2 0), Value.int .u32 (x'.2
  1), Value.int .u32 (x'.2 2), Value.int .u32 (x'.2 3), Value.int .u32 (x'.2 4), Value.int .u32 (x'.2 5), Value.int .u32 (x'.2 6), Value.int .u32 (x'.2 7)] ∧ EqI (List.take (nSub (iOf
  (List.drop (nMul 64 x_1.1) l).length).toNat 64) (List.drop 64 (List.drop (nMul 64 x_1.1) l))) (List.drop (nMul 64 x'.1) l) ∧ EqI (app (app (tlI l) (128 :: List.replicate x 0)) T2)
  (app (app (tlI l) (128 :: List.replicate x 0)) T2) ∧ Array.mk [Value.int .u8 0, Value.int .u8 0, Value.int .u8 0, Value.int .u8 0, Value.int .u8 0, Value.int .u8 0, Value.int .u8 0,
  Value.int .u8 0, Value.int .u8 0, Value.int .u8 0, Value.int .u8 0, Value.int .u8 0, Value.int .u8 0, Value.int .u8 0, Value.int .u8 0, Value.int .u8 0, Value.int .u8 0, Value.int
  .u8 0, Value.int .u8 0, Value.int .u8 0, Value.int .u8 0, Value.int .u8 0, Value.int .u8 0, Value.int .u8 0, Value.int .u8 0, Value.int .u8 0, Value.int .u8 0, Value.int .u8 0,
  Value.int .u8 0, Value.int .u8 0, Value.int .u8 0, Value.int .u8 0] = Array.mk [Value.int .u8 0, Value.int .u8 0, Value.int .u8 0, Value.int .u8 0, Value.int .u8 0, Value.int .u8 0,
  Value.int .u8 0, Value.int .u8 0, Value.int .u8 0, Value.int .u8 0, Value.int .u8 0, Value.int .u8 0, Value.int .u8 0, Value.int .u8 0, Value.int .u8 0, Value.int .u8 0, Value.int
  .u8 0, Value.int .u8 0, Value.int .u8 0, Value.int .u8 0, Value.int .u8 0, Value.int .u8 0, Value.int .u8 0, Value.int .u8 0, Value.int .u8 0, Value.int .u8 0, Value.int .u8 0,
  Value.int .u8 0, Value.int .u8 0, Value.int .u8 0, Value.int .u8 0, Value.int .u8 0] ∧ True) False) False) False) ((∃ (x_2 : Nat × (Nat → Int)), (nMul 64 x_2.1 ≤ (endI O l).length ∧
  EqI [x_2.2 0, x_2.2 1, x_2.2 2, x_2.2 3, x_2.2 4, x_2.2 5, x_2.2 6, x_2.2 7] (stI O (O.pad l) (nAdd (nDiv l.length 64) x_2.1))) ∧ True ∧ Array.mk [Value.int .u32 (x_1.2 0),
  Value.int .u32 (x_1.2 1), Value.int .u32 (x_1.2 2), Value.int .u32 (x_1.2 3), Value.int .u32 (x_1.2 4), Value.int .u32 (x_1.2 5), Value.int .u32 (x_1.2 6), Value.int .u32 (x_1.2 7)]
  = Array.mk [Value.int .u32 (x_2.2 0), Value.int .u32 (x_2.2 1), Value.int .u32 (x_2.2 2), Value.int .u32 (x_2.2 3), Value.int .u32 (x_2.2 4), Value.int .u32 (x_2.2 5), Value.int
  .u32 (x_2.2 6), Value.int .u32 (x_2.2 7)] ∧ EqI (app (app (tlI l) (128 :: List.replicate x 0)) T2) (List.drop (nMul 64 x_2.1) (endI O l)) ∧ Array.mk [Value.int .u8 0, Value.int .u8
  0, Value.int .u8 0, Value.int .u8 0, Value.int .u8 0, Value.int .u8 0, Value.int .u8 0, Value.int .u8 0, Value.int .u8 0, Value.int .u8 0, Value.int .u8 0, Value.int .u8 0,
  Value.int .u8 0, Value.int .u8 0, Value.int .u8 0, Value.int .u8 0, Value.int .u8 0, Value.int .u8 0, Value.int .u8 0, Value.int .u8 0, Value.int .u8 0, Value.int .u8 0, Value.int
  .u8 0, Value.int .u8 0, Value.int .u8 0, Value.int .u8 0, Value.int .u8 0, Value.int .u8 0, Value.int .u8 0, Value.int .u8 0, Value.int .u8 0, Value.int .u8 0] = Array.mk [Value.int
  .u8 0, Value.int .u8 0, Value.int .u8 0, Value.int .u8 0, Value.int .u8 0, Value.int .u8 0, Value.int .u8 0, Value.int .u8 0, Value.int .u8 0, Value.int .u8 0, Value.int .u8 0,
  Value.int .u8 0, Value.int .u8 0, Value.int .u8 0, Value.int .u8 0, Value.int .u8 0, Value.int .u8 0, Value.int .u8 0, Value.int .u8 0, Value.int .u8 0, Value.int .u8 0, Value.int
  .u8 0, Value.int .u8 0, Value.int .u8 0, Value.int .u8 0, Value.int .u8 0, Value.int .u8 0, Value.int .u8 0, Value.int .u8 0, Value.int .u8 0, Value.int .u8 0, Value.int .u8 0] ∧
  True) ∧ ∀ (x : Nat × (Nat → Int)), nMul 64 x.1 ≤ (endI O l).length ∧ EqI [x.2 0, x.2 1, x.2 2, x.2 3, x.2 4, x.2 5, x.2 6, x.2 7] (stI O (O.pad l) (nAdd (nDiv l.length 64) x.1)) →
  If (iLt 0 (iOf (Cont.ints .u8 (List.drop (nMul 64 x.fst) (endI O l))).n)) (If (iLe 0 0 && iLe 0 64 && iLe 64 (iOf (Cont.ints .u8 (List.drop (nMul 64 x.fst) (endI O l))).n)) (If
  ((List.take 64 (List.drop 0 (List.drop (nMul 64 x.1) (endI O l)))).length.beq 64) (If (iLe 0 64 && iLe 64 (iOf (Cont.ints .u8 (List.drop (nMul 64 x.fst) (endI O l))).n) && iLe (iOf
  (Cont.ints .u8 (List.drop (nMul 64 x.fst) (endI O l))).n) (iOf (Cont.ints .u8 (List.drop (nMul 64 x.fst) (endI O l))).n)) (∃ (x' : Nat × (Nat → Int)), (nMul 64 x'.1 ≤ (endI O
  l).length ∧ EqI [x'.2 0, x'.2 1, x'.2 2, x'.2 3, x'.2 4, x'.2 5, x'.2 6, x'.2 7] (stI O (O.pad l) (nAdd (nDiv l.length 64) x'.1))) ∧ (nSub (endI O l).length x'.1).succ ≤ nSub (endI
  O l).length x.1 ∧ True ∧ Array.mk (List.map (Value.int .u32) (tabI (O.mix (List.take 64 (List.drop 0 (List.drop (nMul 64 x.1) (endI O l)))) [x.2 0, x.2 1, x.2 2, x.2 3, x.2 4, x.2
  5, x.2 6, x.2 7]) 8)) = Array.mk [Value.int .u32 (x'.2 0), Value.int .u32 (x'.2 1), Value.int .u32 (x'.2 2), Value.int .u32 (x'.2 3), Value.int .u32 (x'.2 4), Value.int .u32 (x'.2
  5), Value.int .u32 (x'.2 6), Value.int .u32 (x'.2 7)] ∧ EqI (List.take (nSub (iOf (List.drop (nMul 64 x.1) (endI O l)).length).toNat 64) (List.drop 64 (List.drop (nMul 64 x.1) (endI
  O l)))) (List.drop (nMul 64 x'.1) (endI O l)) ∧ Array.mk [Value.int .u8 0, Value.int .u8 0, Value.int .u8 0, Value.int .u8 0, Value.int .u8 0, Value.int .u8 0, Value.int .u8 0,
  Value.int .u8 0, Value.int .u8 0, Value.int .u8 0, Value.int .u8 0, Value.int .u8 0, Value.int .u8 0, Value.int .u8 0, Value.int .u8 0, Value.int .u8 0, Value.int .u8 0, Value.int
  .u8 0, Value.int .u8 0, Value.int .u8 0, Value.int .u8 0, Value.int .u8 0, Value.int .u8 0, Value.int .u8 0, Value.int .u8 0, Value.int .u8 0, Value.int .u8 0, Value.int .u8 0,
  Value.int .u8 0, Value.int .u8 0, Value.int .u8 0, Value.int .u8 0] = Array.mk [Value.int .u8 0, Value.int .u8 0, Value.int .u8 0, Value.int .u8 0, Value.int .u8 0, Value.int .u8 0,
  Value.int .u8 0, Value.int .u8 0, Value.int .u8 0, Value.int .u8 0, Value.int .u8 0, Value.int .u8 0, Value.int .u8 0, Value.int .u8 0, Value.int .u8 0, Value.int .u8 0, Value.int
  .u8 0, Value.int .u8 0, Value.int .u8 0, Value.int .u8 0, Value.int .u8 0, Value.int .u8 0, Value.int .u8 0, Value.int .u8 0, Value.int .u8 0, Value.int .u8 0, Value.int .u8 0,
  Value.int .u8 0, Value.int .u8 0, Value.int .u8 0, Value.int .u8 0, Value.int .u8 0] ∧ True) False) False) False) (Value.agg (Array.mk [Value.int .u8 (u8.wrap ((x.2 0).fdiv
  (iPow 2 24))), Value.int .u8 (u8.wrap ((x.2 0).fdiv (iPow 2 16))), Value.int .u8 (u8.wrap ((x.2 0).fdiv (iPow 2 8))), Value.int .u8 (u8.wrap ((x.2 0).fdiv
  (iPow 2 0))), Value.int .u8 (u8.wrap ((x.2 1).fdiv (iPow 2 24))), Value.int .u8 (u8.wrap ((x.2 1).fdiv (iPow 2 16))), Value.int .u8 (u8.wrap ((x.2 1).fdiv
  (iPow 2 8))), Value.int .u8 (u8.wrap ((x.2 1).fdiv (iPow 2 0))), Value.int .u8 (u8.wrap ((x.2 2).fdiv (iPow 2 24))), Value.int .u8 (u8.wrap ((x.2 2).fdiv
  (iPow 2 16))), Value.int .u8 (u8.wrap ((x.2 2).fdiv (iPow 2 8))), Value.int .u8 (u8.wrap ((x.2 2).fdiv (iPow 2 0))), Value.int .u8 (u8.wrap ((x.2 3).fdiv
  (iPow 2 24))), Value.int .u8 (u8.wrap ((x.2 3).fdiv (iPow 2 16))), Value.int .u8 (u8.wrap ((x.2 3).fdiv (iPow 2 8))), Value.int .u8 (u8.wrap ((x.2 3).fdiv
  (iPow 2 0))), Value.int .u8 (u8.wrap ((x.2 4).fdiv (iPow 2 24))), Value.int .u8 (u8.wrap ((x.2 4).fdiv (iPow 2 16))), Value.int .u8 (u8.wrap ((x.2 4).fdiv
  (iPow 2 8))), Value.int .u8 (u8.wrap ((x.2 4).fdiv (iPow 2 0))), Value.int .u8 (u8.wrap ((x.2 5).fdiv (iPow 2 24))), Value.int .u8 (u8.wrap ((x.2 5).fdiv
  (iPow 2 16))), Value.int .u8 (u8.wrap ((x.2 5).fdiv (iPow 2 8))), Value.int .u8 (u8.wrap ((x.2 5).fdiv (iPow 2 0))), Value.int .u8 (u8.wrap ((x.2 6).fdiv
  (iPow 2 24))), Value.int .u8 (u8.wrap ((x.2 6).fdiv (iPow 2 16))), Value.int .u8 (u8.wrap ((x.2 6).fdiv (iPow 2 8))), Value.int .u8 (u8.wrap ((x.2 6).fdiv
  (iPow 2 0))), Value.int .u8 (u8.wrap ((x.2 7).fdiv (iPow 2 24))), Value.int .u8 (u8.wrap ((x.2 7).fdiv (iPow 2 16))), Value.int .u8 (u8.wrap ((x.2 7).fdiv
  (iPow 2 8))), Value.int .u8 (u8.wrap ((x.2 7).fdiv (iPow 2 0)))]) = Value.agg (Array.mk (List.map (Value.int .u8) out)) ∧ True))) False)) False) False) False := by
 conv => zeta
 simp only [zUn, ztN, List.drop_zero]
 have hz : zerI l.length < 64 := Nat.mod_lt _ (by decide)
 have w : i64.wrap ((l.length : Int) - (l.length : Int).tmod 64) = ((l.length - l.length % 64 : Nat) : Int) := by
  rw [IntWalk.rem_in _ _ (by omega), IntWalk.i64_in _ (by omega)]; omega
 have w2 : List.take (l.length - (i64.wrap ((l.length : Int) - (l.length : Int).tmod 64)).toNat) (List.drop (i64.wrap ((l.length : Int) - (l.length : Int).tmod 64)).toNat l) = tlI l := by
  rw [w]; simp only [ztN]; unfold tlI; exact List.take_of_length_le (by simp)
 have w3 : i64.wrap (8 * (l.length : Int)) = 8 * (l.length : Int) := IntWalk.i64_in _ (by omega)
 have ht : (tlI l).length = l.length % 64 := by unfold tlI; rw [List.length_drop]; omega
 have he : (endI O l).length = l.length % 64 + 1 + zerI l.length + 8 := by unfold endI; simp only [zlA, List.length_cons, List.length_replicate, hb, ht]; omega
 have step : ∀ (b : List Int) (n : Nat), List.take (b.length - 64 * n - 64) (List.drop 64 (List.drop (64 * n) b)) = List.drop (64 * (n + 1)) b := by
  intro b n
  rw [List.drop_drop, List.take_of_length_le (by simp; omega)]
  congr 1
 simp only [w2, w3, List.length_drop]
 refine ziT (by simp only [Bz, Sx.Cont.n, w]; omega) (ziT (by rw [Nat.ble_eq, ht]; omega) (ziT (by simp only [zaT, Nat.ble_eq, ht]; omega) ⟨⟨0, Nat.zero_le _, trivial, by simp, (by first | rfl | trivial), (by first | rfl | trivial), trivial⟩, fun x hx => Sx.if_both (fun h => ?_) (fun h => ?_)⟩))
 ·have hx2 : x < zerI l.length := by
   rcases Nat.lt_or_ge x (zerI l.length) with h1 | h1
   ·exact h1
   ·obtain rfl : x = zerI l.length := Nat.le_antisymm hx h1
    rw [IntWalk.rem_in _ _ (by omega)] at h
    simp only [Bz, Sx.Cont.n, zlA, List.length_cons, List.length_replicate, ht] at h
    unfold zerI at h
    omega
  refine ziT (by simp only [zaT, Nat.ble_eq, zlA, List.length_cons, List.length_replicate, ht]; omega) ⟨x + 1, hx2, by omega, trivial, ?_, (by first | rfl | trivial), (by first | rfl | trivial), trivial⟩
  simp [List.replicate_succ', List.append_assoc]
 ·have hx2 : x = zerI l.length := by
   rw [IntWalk.rem_in _ _ (by omega)] at h
   simp only [Bz, Sx.Cont.n, zlA, List.length_cons, List.length_replicate, ht] at h
   unfold zerI at hx ⊢
   omega
  subst hx2
  have hend : tlI l ++ 128 :: List.replicate (zerI l.length) 0 ++ O.be8 (8 * (l.length : Int)) = endI O l := rfl
  rw [hend]
  refine ziT (by simp only [Nat.ble_eq, zlA, List.length_cons, List.length_replicate, ht]; omega) ⟨⟨(0, fun i => HI.getD i 0), ⟨Nat.zero_le _, rfl⟩, trivial, rfl, rfl, (by first | rfl | trivial), (by first | rfl | trivial), trivial⟩, ?_⟩
  rintro ⟨n, g⟩ ⟨hn, hg⟩
  simp only at hn hg ⊢
  refine Sx.if_both (fun hc => ?_) (fun hc => ?_)
  ·simp only [Bz, Sx.Cont.n, List.length_drop] at hc
   refine ziT (by simp only [Bz, Sx.Cont.n, List.length_drop]; omega) (ziT (by simp only [Nat.beq_eq, List.length_take, List.length_drop]; omega) (ziT (by simp only [Bz, Sx.Cont.n, List.length_drop]; omega) ⟨(n + 1, fun i => O.mix ((l.drop (64 * n)).take 64) [g 0, g 1, g 2, g 3, g 4, g 5, g 6, g 7] i), ⟨by omega, ?_⟩, ?_, trivial, rfl, ?_, (by first | rfl | trivial), (by first | rfl | trivial), trivial⟩))
   ·show _ = stI O (O.pad l) (n + 1)
    rw [stI, h1 n (by omega), ← hg]; rfl
   ·simp only; omega
   ·exact step l n
  ·simp only [Bz, Sx.Cont.n, List.length_drop] at hc
   have hq : n = l.length / 64 := by omega
   subst hq
   refine ⟨⟨(0, g), ⟨Nat.zero_le _, hg⟩, trivial, rfl, rfl, (by first | rfl | trivial), trivial⟩, ?_⟩
   rintro ⟨m, u⟩ ⟨hm, hu⟩
   simp only at hm hu ⊢
   refine Sx.if_both (fun hd => ?_) (fun hd => ?_)
   ·simp only [Bz, Sx.Cont.n, List.length_drop] at hd
    refine ziT (by simp only [Bz, Sx.Cont.n, List.length_drop]; omega) (ziT (by simp only [Nat.beq_eq, List.length_take, List.length_drop]; omega) (ziT (by simp only [Bz, Sx.Cont.n, List.length_drop]; omega) ⟨(m + 1, fun i => O.mix (((endI O l).drop (64 * m)).take 64) [u 0, u 1, u 2, u 3, u 4, u 5, u 6, u 7] i), ⟨by omega, ?_⟩, ?_, trivial, rfl, ?_, (by first | rfl | trivial), trivial⟩))
    ·show _ = stI O (O.pad l) (l.length / 64 + m + 1)
     rw [stI, h2 m, ← hu]; rfl
    ·simp only; omega
    ·exact step (endI O l) m
   ·simp only [Bz, Sx.Cont.n, List.length_drop] at hd
    have hm2 : l.length / 64 + m = (O.pad l).length / 64 := by rw [h3]; omega
    refine ⟨?_, trivial⟩
    rw [ho, ← hm2, ← hu, out_eq]
    rfl
theorem wpc_psum (O : OS) (l out : List Int) (hl : l.length ≤ 1099511627776) (hb : ∀ n, (O.be8 n).length = 8) (h1 : ∀ n, 64 * (n + 1) ≤ l.length → ((O.pad l).drop (64 * n)).take 64 = (l.drop (64 * n)).take 64) (h2 : ∀ n, ((O.pad l).drop (64 * (l.length / 64 + n))).take 64 = ((endI O l).drop (64 * n)).take 64) (h3 : (O.pad l).length = 64 * (l.length / 64) + (endI O l).length) (h4 : (endI O l).length % 64 = 0) (ho : out = outI (stI O (O.pad l) ((O.pad l).length / 64))) : wpc Try.prog (spP4 O) Try.f41.ntmps (anP4 O l 132 5) (bodyOf Try.f41) 0 64 (envA [.ro .u8] [.ints l] 0) (memA [.ro .u8] [.ints l] 0) (retG Try.prog Try.f41.results.toList [.v (cellsOf .u8 out)]) :=
 Eq.mpr (by kernel_rfl) (vc_psum O l out hl hb h1 h2 h3 h4 ho)

def tagN (s : Nat) (ps : List (List Int)) : Nat := ps.foldl (fun n p => n + (8 + p.length)) (8 + s)
theorem tagN_ge (ps : List (List Int)) : ∀ n, n + ps.length ≤ ps.foldl (fun n p => n + (8 + p.length)) n := by
 induction ps with
 | nil => intro n; simp
 | cons p ps ih => intro n; have := ih (n + (8 + p.length)); simp only [List.foldl_cons, List.length_cons]; omega
theorem tagN_len (s : Nat) (ps : List (List Int)) : ps.length ≤ tagN s ps := by have := tagN_ge ps (8 + s); unfold tagN; omega
theorem tagN_take (s : Nat) (ps : List (List Int)) (j : Nat) : tagN s (ps.take j) ≤ tagN s ps := by
 have e : tagN s ps = (ps.drop j).foldl (fun n p => n + (8 + p.length)) (tagN s (ps.take j)) := by
  unfold tagN; rw [← List.foldl_append, List.take_append_drop]
 have := tagN_ge (ps.drop j) (tagN s (ps.take j))
 omega
theorem tagB_sum (O : OS) (hb : ∀ n, (O.be8 n).length = 8) (ps : List (List Int)) : ∀ n, ps.foldl (fun n p => n + (8 + p.length)) n = n + (ps.flatMap fun p => O.be8 (p.length : Int) ++ p).length := by
 induction ps with
 | nil => intro n; simp
 | cons p ps ih => intro n; rw [List.foldl_cons, ih, List.flatMap_cons, zlA, zlA, hb]; omega
theorem tagB_len (O : OS) (hb : ∀ n, (O.be8 n).length = 8) (s : List Int) (ps : List (List Int)) : (tagB O s ps).length = tagN s.length ps := by
 unfold tagB tagN
 rw [tagB_sum O hb, zlA, zlA, hb]
theorem tagB_snoc (O : OS) (s : List Int) (ps : List (List Int)) {j : Nat} (h : j < ps.length) : tagB O s (ps.take (j + 1)) = tagB O s (ps.take j) ++ O.be8 ((ps.getD j []).length : Int) ++ ps.getD j [] := by
 unfold tagB
 rw [List.take_add_one, List.getElem?_eq_getElem h, List.getD_eq_getElem?_getD, List.getElem?_eq_getElem h, List.flatMap_append]
 simp only [Option.toList_some, Option.getD_some, List.flatMap_cons, List.flatMap_nil, List.append_nil, List.append_assoc]
def g_tag (O : OS) (xs : List Arg) : Option (Bool × List Ret) := match xs with
 | [.v (.string s), .rows ps] => some (Nat.ble (tagN s.size ps) 1099511627776, [.v (HV (O.tag s ps))])
 | _ => none
def spP5 (O : OS) (f : FuncId) : Option Sx.Spec := match f with
 | 41 => some (gspec [.ro .u8] (g_sum O))
 | 73 => some (gspec [.own 5 .u8, .v] (g_long O))
 | _ => none
def anT (O : OS) (s : List Int) (ps : List (List Int)) (i : Nat) (k : List Nat) (e1 : TypeId) : List Ann := [
 ⟨Nat, k, [(5, e1, .ints .u8 [])], fun B j => [(5, .row B), (i, .v (.int .i64 (j : Int)))], fun B j => [(B, .own e1 (.ints .u8 (tagB O s (ps.take j))))], fun j => j ≤ ps.length, fun j => ps.length - j, 0⟩]
theorem vc_ptag (O : OS) (s : ByteArray) (ps : List (List Int)) (out : List Int) (hn : tagN s.size ps ≤ 1099511627776) (hb : ∀ n, (O.be8 n).length = 8) (ho : out = tabI (O.sum (tagB O (strI s) ps)) 32) :
 let T1 := nAdd (app [] (O.be8 (iOf s.size))).length (strI s).length; If ((nMul T1 1).ble 140737488355328 && T1.ble 9223372036854775807) ((∃ (x : Nat), x ≤ ps.length ∧ (yI 0 = yI
  (iOf x) ∧ yI (iOf ps.length) = yI (iOf ps.length) ∧ True) ∧ EqI (app (app [] (O.be8 (iOf s.size))) (strI s)) (tagB O (strI s) (List.take x ps)) ∧ Array.mk [Value.int .u8 0,
  Value.int .u8 0, Value.int .u8 0, Value.int .u8 0, Value.int .u8 0, Value.int .u8 0, Value.int .u8 0, Value.int .u8 0, Value.int .u8 0, Value.int .u8 0, Value.int .u8 0, Value.int
  .u8 0, Value.int .u8 0, Value.int .u8 0, Value.int .u8 0, Value.int .u8 0, Value.int .u8 0, Value.int .u8 0, Value.int .u8 0, Value.int .u8 0, Value.int .u8 0, Value.int .u8 0,
  Value.int .u8 0, Value.int .u8 0, Value.int .u8 0, Value.int .u8 0, Value.int .u8 0, Value.int .u8 0, Value.int .u8 0, Value.int .u8 0, Value.int .u8 0, Value.int .u8 0] = Array.mk
  [Value.int .u8 0, Value.int .u8 0, Value.int .u8 0, Value.int .u8 0, Value.int .u8 0, Value.int .u8 0, Value.int .u8 0, Value.int .u8 0, Value.int .u8 0, Value.int .u8 0, Value.int
  .u8 0, Value.int .u8 0, Value.int .u8 0, Value.int .u8 0, Value.int .u8 0, Value.int .u8 0, Value.int .u8 0, Value.int .u8 0, Value.int .u8 0, Value.int .u8 0, Value.int .u8 0,
  Value.int .u8 0, Value.int .u8 0, Value.int .u8 0, Value.int .u8 0, Value.int .u8 0, Value.int .u8 0, Value.int .u8 0, Value.int .u8 0, Value.int .u8 0, Value.int .u8 0, Value.int
  .u8 0] ∧ Res.ros ps = Res.ros ps ∧ True) ∧ ∀ (x : Nat), let T2 := app (tagB O (strI s) (List.take x ps)) (O.be8 (iOf (ps.getD (iOf x).toNat []).length)); let T3 := nAdd T2.length (ps.getD (iOf x).toNat []).length;
  x ≤ ps.length → If (iLt (iOf x) (iOf ps.length)) (If (iLe 0 (iOf x) && (iOf x).toNat.blt ps.length) (If (true && !false && Nat.beq 1 1 && Nat.beq 0 0 && (iOf x).toNat.blt ps.length)
  (If ((tagB O (strI s) (List.take x ps)).length.ble 2199023255552) (If ((nMul T3 1).ble 140737488355328 && T3.ble 9223372036854775807) (∃ (x' : Nat), x' ≤ ps.length ∧ (nSub ps.length
  x').succ ≤ nSub ps.length x ∧ (yI (i64.wrap (iAdd (iOf x) 1)) = yI (iOf x') ∧ yI (iOf ps.length) = yI (iOf ps.length) ∧ True) ∧ EqI (app T2 (ps.getD (iOf x).toNat [])) (tagB
  O (strI s) (List.take x' ps)) ∧ Array.mk [Value.int .u8 0, Value.int .u8 0, Value.int .u8 0, Value.int .u8 0, Value.int .u8 0, Value.int .u8 0, Value.int .u8 0, Value.int .u8 0,
  Value.int .u8 0, Value.int .u8 0, Value.int .u8 0, Value.int .u8 0, Value.int .u8 0, Value.int .u8 0, Value.int .u8 0, Value.int .u8 0, Value.int .u8 0, Value.int .u8 0, Value.int
  .u8 0, Value.int .u8 0, Value.int .u8 0, Value.int .u8 0, Value.int .u8 0, Value.int .u8 0, Value.int .u8 0, Value.int .u8 0, Value.int .u8 0, Value.int .u8 0, Value.int .u8 0,
  Value.int .u8 0, Value.int .u8 0, Value.int .u8 0] = Array.mk [Value.int .u8 0, Value.int .u8 0, Value.int .u8 0, Value.int .u8 0, Value.int .u8 0, Value.int .u8 0, Value.int .u8 0,
  Value.int .u8 0, Value.int .u8 0, Value.int .u8 0, Value.int .u8 0, Value.int .u8 0, Value.int .u8 0, Value.int .u8 0, Value.int .u8 0, Value.int .u8 0, Value.int .u8 0, Value.int
  .u8 0, Value.int .u8 0, Value.int .u8 0, Value.int .u8 0, Value.int .u8 0, Value.int .u8 0, Value.int .u8 0, Value.int .u8 0, Value.int .u8 0, Value.int .u8 0, Value.int .u8 0,
  Value.int .u8 0, Value.int .u8 0, Value.int .u8 0, Value.int .u8 0] ∧ Res.ros ps = Res.ros ps ∧ True) False) False) False) False) (If ((tagB O (strI s) (List.take x ps)).length.ble
  1099511627776) (Value.agg (Array.mk (List.map (Value.int .u8) (tabI (O.sum (tagB O (strI s) (List.take x ps))) 32))) = Value.agg (Array.mk (List.map (Value.int .u8) out)) ∧ True)
  False)) False := by
 conv => zeta
 simp only [zUn, ztN]
 have hs : (strI s).length = s.size := strI_len s
 have hL : ∀ j, (tagB O (strI s) (ps.take j)).length ≤ 1099511627776 := fun j => by rw [tagB_len O hb, hs]; exact Nat.le_trans (tagN_take _ _ _) hn
 have hps : ps.length ≤ 1099511627776 := Nat.le_trans (tagN_len _ _) hn
 have hsz : 8 + s.size ≤ 1099511627776 := by have := tagN_ge ps (8 + s.size); unfold tagN at hn; omega
 refine ziT (by simp only [zaT, Nat.ble_eq, zlA, List.length_nil, hb, hs]; omega) ⟨⟨0, Nat.zero_le _, ⟨rfl, (by first | rfl | trivial), trivial⟩, ?_, (by first | rfl | trivial), (by first | rfl | trivial), trivial⟩, fun x hx => Sx.if_both (fun h => ?_) (fun h => ?_)⟩
 ·simp [tagB, hs]
 ·simp only [Bz, Sx.Cont.n] at h
  have hlt : x < ps.length := by omega
  have hbl : x.blt ps.length = true := by rw [Nat.blt_eq]; exact hlt
  have h1 := hL (x + 1)
  rw [tagB_snoc O _ ps hlt] at h1
  simp only [zlA, hb] at h1
  have wx : i64.wrap ((x : Int) + 1) = ((x + 1 : Nat) : Int) := by rw [IntWalk.i64_in _ (by omega)]; omega
  refine ziT (by simp only [Bz, Sx.Cont.n, hbl, and_true]; omega) (ziT hbl (ziT (by simp only [Nat.ble_eq]; have := hL x; omega) (ziT (by simp only [zaT, Nat.ble_eq, zlA, hb]; omega) ⟨x + 1, hlt, by omega, ⟨by rw [wx], (by first | rfl | trivial), trivial⟩, ?_, (by first | rfl | trivial), (by first | rfl | trivial), trivial⟩)))
  rw [tagB_snoc O _ ps hlt]
 ·simp only [Bz, Sx.Cont.n] at h
  have hx2 : x = ps.length := by omega
  subst hx2
  refine ziT (by simp only [Nat.ble_eq]; exact hL _) ⟨?_, trivial⟩
  rw [ho, List.take_of_length_le (Nat.le_refl _)]
theorem wpc_ptag (O : OS) (s : ByteArray) (ps : List (List Int)) (out : List Int) (hn : tagN s.size ps ≤ 1099511627776) (hb : ∀ n, (O.be8 n).length = 8) (ho : out = tabI (O.sum (tagB O (strI s) ps)) 32) : wpc Try.prog (spP5 O) Try.f64.ntmps (anT O (strI s) ps 15 [4, 13, 14] 5) (bodyOf Try.f64) 0 64 (envA [.v, .ros] [.v (.string s), .rows ps] 0) (memA [.v, .ros] [.v (.string s), .rows ps] 0) (retG Try.prog Try.f64.results.toList [.v (cellsOf .u8 out)]) :=
 Eq.mpr (by kernel_rfl) (vc_ptag O s ps out hn hb ho)
theorem pad_end (l : List Int) (n : Nat) (hn : 64 * n ≤ l.length) : (padI l).drop (64 * n) = l.drop (64 * n) ++ 128 :: List.replicate (zerI l.length) 0 ++ be8Z (8 * (l.length : Int)) := by
 unfold padI
 rw [List.append_assoc, List.append_assoc, List.drop_append_of_le_length hn]
theorem os_pad : os.pad = padI := by kernel_rfl
theorem os_be8 : os.be8 = be8Z := by kernel_rfl
theorem os_sum (l : List Int) : os.sum l = fun i => (sumI l).getD i 0 := by kernel_rfl
theorem os_tag (s : ByteArray) (ps : List (List Int)) : os.tag s ps = fun i => (sumI (tagB os0 (strI s) ps)).getD i 0 := by kernel_rfl
theorem os_b8 (n : Int) : (os.be8 n).length = 8 := by rw [os_be8]; exact be8_len n
theorem HV_sum (l : List Int) : HV (os.sum l) = cellsOf .u8 (sumI l) := by unfold HV; rw [os_sum, sum_tab]
theorem os_end (l : List Int) : (endI os l) = (padI l).drop (64 * (l.length / 64)) := by
 rw [pad_end l _ (by omega)]
 unfold endI tlI
 rw [os_be8, show l.length - l.length % 64 = 64 * (l.length / 64) by omega]
theorem spP4_ok (I : Sx.Interp) (O : OS) (hO : O = os) : ∀ f s, spP4 O f = some s → Sx.SpecOK I Try.prog f s := by
 intro f s h
 unfold spP4 at h
 split at h
 ·cases h; exact ok_clone I
 ·cases h; exact ok_long I O hO
 ·cases h; exact ok_first I oh rfl
 ·cases h; subst hO; rw [show (OM.mk os.mix) = om by kernel_rfl]; exact ok_mix I oh rfl
 ·cases h
theorem ok_psum (I : Sx.Interp) (O : OS) (hO : O = os) : Sx.SpecOK I Try.prog 41 (gspec [.ro .u8] (g_sum O)) := by
 refine spec_genA (spP4_ok I O hO) (by kernel_rfl) (fun xs => match xs with | [.ints l] => anP4 O l 132 5 | _ => []) Try.func41 (by kernel_rfl) (by kernel_rfl) rfl Try.ntmps41 (by decide) ?_ ?_
 ·intro xs p rs h; unfold g_sum at h; split at h <;> first | (simp only [zsI, zpI] at h; rw [← h.2]; simp) | cases h
 ·intro xs rs hl h
  unfold g_sum at h
  split at h
  ·rename_i l
   simp only [zsI, zpI] at h
   obtain ⟨hc, rfl⟩ := h
   have hc := zbL hc
   have hq : 64 * (l.length / 64) ≤ l.length := by omega
   have := wpc_psum O l (sumI l) hc (by subst hO; exact os_b8)
    (by subst hO; rw [os_pad]; intro n hn; rw [pad_end l n (by omega), List.append_assoc, List.take_append_of_le_length (by rw [List.length_drop]; omega)])
    (by subst hO; rw [os_pad, os_end]; intro n; rw [List.drop_drop, Nat.mul_add])
    (by subst hO; rw [os_pad, os_end, List.length_drop]; have := pad_len l; omega)
    (by subst hO; rw [os_end, List.length_drop]; have := pad_mod l; omega)
    (by subst hO; rw [stI_os, os_pad]; unfold sumI; rfl)
   have e : HV (O.sum l) = cellsOf .u8 (sumI l) := by subst hO; exact HV_sum l
   rw [e]
   exact this
  ·cases h
theorem spP5_ok (I : Sx.Interp) (O : OS) (hO : O = os) : ∀ f s, spP5 O f = some s → Sx.SpecOK I Try.prog f s := by
 intro f s h
 unfold spP5 at h
 split at h
 · cases h; exact ok_psum I O hO
 · cases h; exact ok_long I O hO
 ·cases h
theorem tagB_os (s : List Int) (ps : List (List Int)) : tagB os s ps = tagB os0 s ps := by unfold tagB; rw [show os.be8 = os0.be8 by kernel_rfl]
theorem HV_tag (s : ByteArray) (ps : List (List Int)) : HV (os.tag s ps) = cellsOf .u8 (tabI (os.sum (tagB os (strI s) ps)) 32) := by
 unfold HV; rw [os_tag, os_sum, tagB_os]
theorem ok_ptag (I : Sx.Interp) (O : OS) (hO : O = os) : Sx.SpecOK I Try.prog 64 (gspec [.v, .ros] (g_tag O)) := by
 refine spec_genA (spP5_ok I O hO) (by kernel_rfl) (fun xs => match xs with | [.v (.string s), .rows ps] => anT O (strI s) ps 15 [4, 13, 14] 5 | _ => []) Try.func64 (by kernel_rfl) (by kernel_rfl) rfl Try.ntmps64 (by decide) ?_ ?_
 ·intro xs p rs h; unfold g_tag at h; split at h <;> first | (simp only [zsI, zpI] at h; rw [← h.2]; simp) | cases h
 ·intro xs rs hl h
  unfold g_tag at h
  split at h
  ·rename_i s ps
   simp only [zsI, zpI] at h
   obtain ⟨hc, rfl⟩ := h
   have := wpc_ptag O s ps _ (zbL hc) (by subst hO; exact os_b8) rfl
   subst hO
   rw [HV_tag]
   exact this
  ·cases h