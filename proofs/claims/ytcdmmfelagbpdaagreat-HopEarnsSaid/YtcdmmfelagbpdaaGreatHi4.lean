/- SHA-256 of bytes by the symbolic machine: the padding, eight bytes of a number, a copy, the sum of the document's (VCs printed by VcTool, proofs by hand). -/
import Derived.Test.YtcdmmfelagbpdaaGreatHi3
import Derived.IntWalk
import Derived.Test.YtcdmmfelagbpdaaGreatVn
namespace Go.Proofs.YtcdmmfelagbpdaaGreat
open Go.RowKit Go.Lib Sx
set_option linter.unusedVariables false
set_option linter.unusedSimpArgs false
set_option maxRecDepth 1000000
def zerI (n : Nat) : Nat := (119 - n % 64) % 64
def beZ (n : Int) (k : Nat) : Int := IntKind.u8.wrap (n.fdiv (2 ^ k))
def be8Z (n : Int) : List Int := [beZ n 56, beZ n 48, beZ n 40, beZ n 32, beZ n 24, beZ n 16, beZ n 8, beZ n 0]
def padI (l : List Int) : List Int := l ++ 128 :: List.replicate (zerI l.length) 0 ++ be8Z (8 * (l.length : Int))
def anPad (l : List Int) (e : TypeId) : List Ann := [
 ⟨Nat, [0], [(3, e, .ints .u8 [])], fun B _ => [(3, .row B)], fun B j => [(B, .own e (.ints .u8 (l ++ 128 :: List.replicate j 0)))], fun j => j ≤ zerI l.length, fun j => zerI l.length - j, 0⟩,
 Ann.walk 9]
structure OS where
 mix : List Int → List Int → Nat → Int
 pad : List Int → List Int
 be8 : Int → List Int
 sum : List Int → Nat → Int
 tag : ByteArray → List (List Int) → Nat → Int
def g_padded (O : OS) (xs : List Arg) : Option (Bool × List Ret) := match xs with
 | [.ints l] => some (Nat.ble l.length 1099511627776, [.ints 5 .u8 (O.pad l)])
 | _ => none
def g_clone (xs : List Arg) : Option (Bool × List Ret) := match xs with
 | [.ints l] => some (Nat.ble l.length 1099511627776, [.ints 5 .u8 l])
 | _ => none
def g_long (O : OS) (xs : List Arg) : Option (Bool × List Ret) := match xs with
 | [.ints l, .v (.int .i64 n)] => some (Nat.ble l.length 2199023255552, [.ints 5 .u8 (l ++ O.be8 n)])
 | _ => none
def g_Long (O : OS) (xs : List Arg) : Option (Bool × List Ret) := match xs with
 | [.v (.int .u64 n)] => some (true, [.ints 5 .u8 (O.be8 n)])
 | _ => none
def stI (O : OS) (p : List Int) : Nat → List Int
 | 0 => HI
 | n + 1 => tabI (O.mix ((p.drop (64 * n)).take 64) (stI O p n)) 8
def outI (h : List Int) : List Int := tabI (fun i => IntKind.u8.wrap ((h.getD (i / 4) 0).fdiv (2 ^ (24 - 8 * (i % 4))))) 32
def spR4 (O : OS) (f : FuncId) : Option Sx.Spec := match f with
 | 107 => some (gspec [.ro .u8] (g_padded O))
 | 108 => some (gspec [] (g_ints 25 .u32 HI))
 | 109 => some (gspec [.ro .u32, .ro .u8] (g_block ⟨O.mix⟩))
 | _ => none
abbrev w8 (x : Nat → Int) : List Int := [x 0, x 1, x 2, x 3, x 4, x 5, x 6, x 7]
def anS (O : OS) (p : List Int) (e4 e1 : TypeId) : List Ann := [
 ⟨Nat × (Nat → Int), [0, 2], [(4, e4, .ints .u32 []), (3, e1, .ints .u8 [])], fun B x => [(4, .row B), (3, .row (B+1)), (5, .v (.int .i64 ((64 * x.1 : Nat) : Int)))], fun B x => [(B, .own e4 (.ints .u32 (w8 x.2))), (B+1, .ro (.ints .u8 p))], fun x => 64 * x.1 ≤ p.length ∧ w8 x.2 = stI O p x.1, fun x => p.length - x.1, 0⟩,
 Ann.walk 33]
set_option maxHeartbeats 4000000 in
theorem vc_padded (l out : List Int) (hl : l.length ≤ 1099511627776) (ho : out = padI l) :
 If ((nMul (nAdd 0 l.length) 1).ble 140737488355328 && (nAdd 0 l.length).ble 9223372036854775807) (If ((nMul (nAdd (app [] l).length 1) 1).ble 140737488355328 && (nAdd (app []
  l).length 1).ble 9223372036854775807) ((∃ (x : Nat), x ≤ zerI l.length ∧ True ∧ EqI (app (app [] l) [128]) (app l (128 :: List.replicate x 0)) ∧ EqI l l ∧ True) ∧ ∀ (x : Nat), x ≤
  zerI l.length → If (iBne ((iOf (app l (128 :: List.replicate x 0)).length).tmod 64) 56) (If ((nMul (nAdd (app l (128 :: List.replicate x 0)).length 1) 1).ble 140737488355328 &&
  (nAdd (app l (128 :: List.replicate x 0)).length 1).ble 9223372036854775807) (∃ (x' : Nat), x' ≤ zerI l.length ∧ (nSub (zerI l.length) x').succ ≤ nSub (zerI l.length) x ∧ True ∧ EqI
  (app (app l (128 :: List.replicate x 0)) [0]) (app l (128 :: List.replicate x' 0)) ∧ EqI l l ∧ True) False) (If ((nMul (nAdd (app l (128 :: List.replicate x 0)).length
  [IntKind.u8.wrap ((IntKind.u64.wrap (iMul 8 (IntKind.u64.wrap (iOf l.length)))).fdiv (iPow 2 56))].length) 1).ble 140737488355328 && (nAdd (app l (128 :: List.replicate x 0)).length
  [IntKind.u8.wrap ((IntKind.u64.wrap (iMul 8 (IntKind.u64.wrap (iOf l.length)))).fdiv (iPow 2 56))].length).ble 9223372036854775807) (If ((nMul (nAdd (app (app l (128 ::
  List.replicate x 0)) [IntKind.u8.wrap ((IntKind.u64.wrap (iMul 8 (IntKind.u64.wrap (iOf l.length)))).fdiv (iPow 2 56))]).length [IntKind.u8.wrap ((IntKind.u64.wrap (iMul 8
  (IntKind.u64.wrap (iOf l.length)))).fdiv (iPow 2 48))].length) 1).ble 140737488355328 && (nAdd (app (app l (128 :: List.replicate x 0)) [IntKind.u8.wrap ((IntKind.u64.wrap (iMul 8
  (IntKind.u64.wrap (iOf l.length)))).fdiv (iPow 2 56))]).length [IntKind.u8.wrap ((IntKind.u64.wrap (iMul 8 (IntKind.u64.wrap (iOf l.length)))).fdiv (iPow 2 48))].length).ble
  9223372036854775807) (If ((nMul (nAdd (app (app (app l (128 :: List.replicate x 0)) [IntKind.u8.wrap ((IntKind.u64.wrap (iMul 8 (IntKind.u64.wrap (iOf l.length)))).fdiv (iPow 2
  56))]) [IntKind.u8.wrap ((IntKind.u64.wrap (iMul 8 (IntKind.u64.wrap (iOf l.length)))).fdiv (iPow 2 48))]).length [IntKind.u8.wrap ((IntKind.u64.wrap (iMul 8 (IntKind.u64.wrap (iOf
  l.length)))).fdiv (iPow 2 40))].length) 1).ble 140737488355328 && (nAdd (app (app (app l (128 :: List.replicate x 0)) [IntKind.u8.wrap ((IntKind.u64.wrap (iMul 8 (IntKind.u64.wrap
  (iOf l.length)))).fdiv (iPow 2 56))]) [IntKind.u8.wrap ((IntKind.u64.wrap (iMul 8 (IntKind.u64.wrap (iOf l.length)))).fdiv (iPow 2 48))]).length [IntKind.u8.wrap ((IntKind.u64.wrap
  (iMul 8 (IntKind.u64.wrap (iOf l.length)))).fdiv (iPow 2 40))].length).ble 9223372036854775807) (If ((nMul (nAdd (app (app (app (app l (128 :: List.replicate x 0)) [IntKind.u8.wrap
  ((IntKind.u64.wrap (iMul 8 (IntKind.u64.wrap (iOf l.length)))).fdiv (iPow 2 56))]) [IntKind.u8.wrap ((IntKind.u64.wrap (iMul 8 (IntKind.u64.wrap (iOf l.length)))).fdiv (iPow 2
  48))]) [IntKind.u8.wrap ((IntKind.u64.wrap (iMul 8 (IntKind.u64.wrap (iOf l.length)))).fdiv (iPow 2 40))]).length [IntKind.u8.wrap ((IntKind.u64.wrap (iMul 8 (IntKind.u64.wrap (iOf
  l.length)))).fdiv (iPow 2 32))].length) 1).ble 140737488355328 && (nAdd (app (app (app (app l (128 :: List.replicate x 0)) [IntKind.u8.wrap ((IntKind.u64.wrap (iMul 8
  (IntKind.u64.wrap (iOf l.length)))).fdiv (iPow 2 56))]) [IntKind.u8.wrap ((IntKind.u64.wrap (iMul 8 (IntKind.u64.wrap (iOf l.length)))).fdiv (iPow 2 48))]) [IntKind.u8.wrap
  ((IntKind.u64.wrap (iMul 8 (IntKind.u64.wrap (iOf l.length)))).fdiv (iPow 2 40))]).length [IntKind.u8.wrap ((IntKind.u64.wrap (iMul 8 (IntKind.u64.wrap (iOf l.length)))).fdiv (iPow
  2 32))].length).ble 9223372036854775807) (If ((nMul (nAdd (app (app (app (app (app l (128 :: List.replicate x 0)) [IntKind.u8.wrap ((IntKind.u64.wrap (iMul 8 (IntKind.u64.wrap (iOf
  l.length)))).fdiv (iPow 2 56))]) [IntKind.u8.wrap ((IntKind.u64.wrap (iMul 8 (IntKind.u64.wrap (iOf l.length)))).fdiv (iPow 2 48))]) [IntKind.u8.wrap ((IntKind.u64.wrap (iMul 8
  (IntKind.u64.wrap (iOf l.length)))).fdiv (iPow 2 40))]) [IntKind.u8.wrap ((IntKind.u64.wrap (iMul 8 (IntKind.u64.wrap (iOf l.length)))).fdiv (iPow 2 32))]).length [IntKind.u8.wrap
  ((IntKind.u64.wrap (iMul 8 (IntKind.u64.wrap (iOf l.length)))).fdiv (iPow 2 24))].length) 1).ble 140737488355328 && (nAdd (app (app (app (app (app l (128 :: List.replicate x 0))
  [IntKind.u8.wrap ((IntKind.u64.wrap (iMul 8 (IntKind.u64.wrap (iOf l.length)))).fdiv (iPow 2 56))]) [IntKind.u8.wrap ((IntKind.u64.wrap (iMul 8 (IntKind.u64.wrap (iOf
  l.length)))).fdiv (iPow 2 48))]) [IntKind.u8.wrap ((IntKind.u64.wrap (iMul 8 (IntKind.u64.wrap (iOf l.length)))).fdiv (iPow 2 40))]) [IntKind.u8.wrap ((IntKind.u64.wrap (iMul 8
  (IntKind.u64.wrap (iOf l.length)))).fdiv (iPow 2 32))]).length [IntKind.u8.wrap ((IntKind.u64.wrap (iMul 8 (IntKind.u64.wrap (iOf l.length)))).fdiv (iPow 2 24))].length).ble
  9223372036854775807) (If ((nMul (nAdd (app (app (app (app (app (app l (128 :: List.replicate x 0)) [IntKind.u8.wrap ((IntKind.u64.wrap (iMul 8 (IntKind.u64.wrap (iOf
  l.length)))).fdiv (iPow 2 56))]) [IntKind.u8.wrap ((IntKind.u64.wrap (iMul 8 (IntKind.u64.wrap (iOf l.length)))).fdiv (iPow 2 48))]) [IntKind.u8.wrap ((IntKind.u64.wrap (iMul 8
  (IntKind.u64.wrap (iOf l.length)))).fdiv (iPow 2 40))]) [IntKind.u8.wrap ((IntKind.u64.wrap (iMul 8 (IntKind.u64.wrap (iOf l.length)))).fdiv (iPow 2 32))]) [IntKind.u8.wrap
  ((IntKind.u64.wrap (iMul 8 (IntKind.u64.wrap (iOf l.length)))).fdiv (iPow 2 24))]).length [IntKind.u8.wrap ((IntKind.u64.wrap (iMul 8 (IntKind.u64.wrap (iOf l.length)))).fdiv (iPow
  2 16))].length) 1).ble 140737488355328 && (nAdd (app (app (app (app (app (app l (128 :: List.replicate x 0)) [IntKind.u8.wrap ((IntKind.u64.wrap (iMul 8 (IntKind.u64.wrap (iOf
  l.length)))).fdiv (iPow 2 56))]) [IntKind.u8.wrap ((IntKind.u64.wrap (iMul 8 (IntKind.u64.wrap (iOf l.length)))).fdiv (iPow 2 48))]) [IntKind.u8.wrap ((IntKind.u64.wrap (iMul 8
  (IntKind.u64.wrap (iOf l.length)))).fdiv (iPow 2 40))]) [IntKind.u8.wrap ((IntKind.u64.wrap (iMul 8 (IntKind.u64.wrap (iOf l.length)))).fdiv (iPow 2 32))]) [IntKind.u8.wrap
  ((IntKind.u64.wrap (iMul 8 (IntKind.u64.wrap (iOf l.length)))).fdiv (iPow 2 24))]).length [IntKind.u8.wrap ((IntKind.u64.wrap (iMul 8 (IntKind.u64.wrap (iOf l.length)))).fdiv (iPow
  2 16))].length).ble 9223372036854775807) (If ((nMul (nAdd (app (app (app (app (app (app (app l (128 :: List.replicate x 0)) [IntKind.u8.wrap ((IntKind.u64.wrap (iMul 8
  (IntKind.u64.wrap (iOf l.length)))).fdiv (iPow 2 56))]) [IntKind.u8.wrap ((IntKind.u64.wrap (iMul 8 (IntKind.u64.wrap (iOf l.length)))).fdiv (iPow 2 48))]) [IntKind.u8.wrap
  ((IntKind.u64.wrap (iMul 8 (IntKind.u64.wrap (iOf l.length)))).fdiv (iPow 2 40))]) [IntKind.u8.wrap ((IntKind.u64.wrap (iMul 8 (IntKind.u64.wrap (iOf l.length)))).fdiv (iPow 2
  32))]) [IntKind.u8.wrap ((IntKind.u64.wrap (iMul 8 (IntKind.u64.wrap (iOf l.length)))).fdiv (iPow 2 24))]) [IntKind.u8.wrap ((IntKind.u64.wrap (iMul 8 (IntKind.u64.wrap (iOf
  l.length)))).fdiv (iPow 2 16))]).length [IntKind.u8.wrap ((IntKind.u64.wrap (iMul 8 (IntKind.u64.wrap (iOf l.length)))).fdiv (iPow 2 8))].length) 1).ble 140737488355328 && (nAdd
  (app (app (app (app (app (app (app l (128 :: List.replicate x 0)) [IntKind.u8.wrap ((IntKind.u64.wrap (iMul 8 (IntKind.u64.wrap (iOf l.length)))).fdiv (iPow 2 56))])
  [IntKind.u8.wrap ((IntKind.u64.wrap (iMul 8 (IntKind.u64.wrap (iOf l.length)))).fdiv (iPow 2 48))]) [IntKind.u8.wrap ((IntKind.u64.wrap (iMul 8 (IntKind.u64.wrap (iOf
  l.length)))).fdiv (iPow 2 40))]) [IntKind.u8.wrap ((IntKind.u64.wrap (iMul 8 (IntKind.u64.wrap (iOf l.length)))).fdiv (iPow 2 32))]) [IntKind.u8.wrap ((IntKind.u64.wrap (iMul 8
  (IntKind.u64.wrap (iOf l.length)))).fdiv (iPow 2 24))]) [IntKind.u8.wrap ((IntKind.u64.wrap (iMul 8 (IntKind.u64.wrap (iOf l.length)))).fdiv (iPow 2 16))]).length [IntKind.u8.wrap
  ((IntKind.u64.wrap (iMul 8 (IntKind.u64.wrap (iOf l.length)))).fdiv (iPow 2 8))].length).ble 9223372036854775807) (If ((nMul (nAdd (app (app (app (app (app (app (app (app l (128 ::
  List.replicate x 0)) [IntKind.u8.wrap ((IntKind.u64.wrap (iMul 8 (IntKind.u64.wrap (iOf l.length)))).fdiv (iPow 2 56))]) [IntKind.u8.wrap ((IntKind.u64.wrap (iMul 8
  (IntKind.u64.wrap (iOf l.length)))).fdiv (iPow 2 48))]) [IntKind.u8.wrap ((IntKind.u64.wrap (iMul 8 (IntKind.u64.wrap (iOf l.length)))).fdiv (iPow 2 40))]) [IntKind.u8.wrap
  ((IntKind.u64.wrap (iMul 8 (IntKind.u64.wrap (iOf l.length)))).fdiv (iPow 2 32))]) [IntKind.u8.wrap ((IntKind.u64.wrap (iMul 8 (IntKind.u64.wrap (iOf l.length)))).fdiv (iPow 2
  24))]) [IntKind.u8.wrap ((IntKind.u64.wrap (iMul 8 (IntKind.u64.wrap (iOf l.length)))).fdiv (iPow 2 16))]) [IntKind.u8.wrap ((IntKind.u64.wrap (iMul 8 (IntKind.u64.wrap (iOf
  l.length)))).fdiv (iPow 2 8))]).length [IntKind.u8.wrap ((IntKind.u64.wrap (iMul 8 (IntKind.u64.wrap (iOf l.length)))).fdiv (iPow 2 0))].length) 1).ble 140737488355328 && (nAdd (app
  (app (app (app (app (app (app (app l (128 :: List.replicate x 0)) [IntKind.u8.wrap ((IntKind.u64.wrap (iMul 8 (IntKind.u64.wrap (iOf l.length)))).fdiv (iPow 2 56))])
  [IntKind.u8.wrap ((IntKind.u64.wrap (iMul 8 (IntKind.u64.wrap (iOf l.length)))).fdiv (iPow 2 48))]) [IntKind.u8.wrap ((IntKind.u64.wrap (iMul 8 (IntKind.u64.wrap (iOf
  l.length)))).fdiv (iPow 2 40))]) [IntKind.u8.wrap ((IntKind.u64.wrap (iMul 8 (IntKind.u64.wrap (iOf l.length)))).fdiv (iPow 2 32))]) [IntKind.u8.wrap ((IntKind.u64.wrap (iMul 8
  (IntKind.u64.wrap (iOf l.length)))).fdiv (iPow 2 24))]) [IntKind.u8.wrap ((IntKind.u64.wrap (iMul 8 (IntKind.u64.wrap (iOf l.length)))).fdiv (iPow 2 16))]) [IntKind.u8.wrap
  ((IntKind.u64.wrap (iMul 8 (IntKind.u64.wrap (iOf l.length)))).fdiv (iPow 2 8))]).length [IntKind.u8.wrap ((IntKind.u64.wrap (iMul 8 (IntKind.u64.wrap (iOf l.length)))).fdiv (iPow 2
  0))].length).ble 9223372036854775807) (EqI (app (app (app (app (app (app (app (app (app l (128 :: List.replicate x 0)) [IntKind.u8.wrap ((IntKind.u64.wrap (iMul 8 (IntKind.u64.wrap
  (iOf l.length)))).fdiv (iPow 2 56))]) [IntKind.u8.wrap ((IntKind.u64.wrap (iMul 8 (IntKind.u64.wrap (iOf l.length)))).fdiv (iPow 2 48))]) [IntKind.u8.wrap ((IntKind.u64.wrap (iMul 8
  (IntKind.u64.wrap (iOf l.length)))).fdiv (iPow 2 40))]) [IntKind.u8.wrap ((IntKind.u64.wrap (iMul 8 (IntKind.u64.wrap (iOf l.length)))).fdiv (iPow 2 32))]) [IntKind.u8.wrap
  ((IntKind.u64.wrap (iMul 8 (IntKind.u64.wrap (iOf l.length)))).fdiv (iPow 2 24))]) [IntKind.u8.wrap ((IntKind.u64.wrap (iMul 8 (IntKind.u64.wrap (iOf l.length)))).fdiv (iPow 2
  16))]) [IntKind.u8.wrap ((IntKind.u64.wrap (iMul 8 (IntKind.u64.wrap (iOf l.length)))).fdiv (iPow 2 8))]) [IntKind.u8.wrap ((IntKind.u64.wrap (iMul 8 (IntKind.u64.wrap (iOf
  l.length)))).fdiv (iPow 2 0))]) out ∧ True) False) False) False) False) False) False) False) False)) False) False := by
 simp only [Sx.app, Sx.nAdd, Sx.nSub, Sx.nMul, Sx.nPow, Sx.nDiv, Sx.nMod, Sx.iAdd, Sx.iSub, Sx.iMul, Sx.iNeg, Sx.iPow, Sx.iOf]
 have hz : zerI l.length < 64 := Nat.mod_lt _ (by decide)
 have hz2 : (l.length + 1 + zerI l.length) % 64 = 56 := by unfold zerI; omega
 refine Sx.if_true (by simp only [Sx.app, Sx.nAdd, Sx.nMul, Bool.and_eq_true, Nat.ble_eq, Nat.beq_eq, List.length_append, List.length_cons, List.length_nil, List.length_replicate]; omega) (Sx.if_true (by simp only [Sx.app, Sx.nAdd, Sx.nMul, Bool.and_eq_true, Nat.ble_eq, Nat.beq_eq, List.length_append, List.length_cons, List.length_nil, List.length_replicate]; omega) ⟨⟨0, Nat.zero_le _, trivial, by simp, (by first | rfl | trivial), trivial⟩, fun x hx => Sx.if_both (fun h => ?_) (fun h => ?_)⟩)
 ·have hx2 : x < zerI l.length := by
   rcases Nat.lt_or_ge x (zerI l.length) with h1 | h1
   ·exact h1
   ·obtain rfl : x = zerI l.length := Nat.le_antisymm hx h1
    rw [IntWalk.rem_in _ _ (by omega)] at h
    simp only [Sx.Bz, Sx.Cont.n, List.length_append, List.length_cons, List.length_replicate] at h
    omega
  refine Sx.if_true (by simp only [Sx.app, Sx.nAdd, Sx.nMul, Bool.and_eq_true, Nat.ble_eq, Nat.beq_eq, List.length_append, List.length_cons, List.length_nil, List.length_replicate]; omega) ⟨x + 1, hx2, by omega, trivial, ?_, (by first | rfl | trivial), trivial⟩
  simp [List.replicate_succ', List.append_assoc]
 ·have hx2 : x = zerI l.length := by
   rw [IntWalk.rem_in _ _ (by omega)] at h
   simp only [Sx.Bz, Sx.Cont.n, List.length_append, List.length_cons, List.length_replicate] at h
   unfold zerI at hx ⊢
   omega
  iterate 8 refine Sx.if_true (by simp only [Sx.app, Sx.nAdd, Sx.nMul, Bool.and_eq_true, Nat.ble_eq, Nat.beq_eq, List.length_append, List.length_cons, List.length_nil, List.length_replicate]; omega) ?_
  subst hx2
  refine ⟨?_, trivial⟩
  have e : IntKind.u64.wrap (8 * IntKind.u64.wrap (l.length : Int)) = 8 * (l.length : Int) := by
   rw [IntKind.wrap_u64, IntKind.wrap_u64]; omega
  rw [ho, e]
  simp [padI, be8Z, beZ]
theorem wpc_padded (l out : List Int) (hl : l.length ≤ 1099511627776) (ho : out = padI l) : wpc Tryz.prog spH0 Tryz.f107.ntmps (anPad l 5) (bodyOf Tryz.f107) 0 64 (envA [.ro .u8] [.ints l] 0) (memA [.ro .u8] [.ints l] 0) (retG Tryz.prog Tryz.f107.results.toList [.ints 5 .u8 out]) :=
 Eq.mpr (by kernel_rfl) (vc_padded l out hl ho)
set_option maxHeartbeats 4000000 in
theorem vc_Long (out : List Int) (n : Int) (ho : out = be8Z n) :
 EqI (app (app (app (app (app (app (app [IntKind.u8.wrap (n.fdiv (iPow 2 56))] [IntKind.u8.wrap (n.fdiv (iPow 2 48))]) [IntKind.u8.wrap (n.fdiv (iPow 2 40))]) [IntKind.u8.wrap
  (n.fdiv (iPow 2 32))]) [IntKind.u8.wrap (n.fdiv (iPow 2 24))]) [IntKind.u8.wrap (n.fdiv (iPow 2 16))]) [IntKind.u8.wrap (n.fdiv (iPow 2 8))]) [IntKind.u8.wrap (n.fdiv (iPow 2 0))])
  out ∧ True := by
 simp only [Sx.app, Sx.nAdd, Sx.nSub, Sx.nMul, Sx.nPow, Sx.nDiv, Sx.nMod, Sx.iAdd, Sx.iSub, Sx.iMul, Sx.iNeg, Sx.iPow, Sx.iOf]
 refine ⟨?_, trivial⟩
 rw [ho]
 rfl
theorem wpc_Long (out : List Int) (n : Int) (ho : out = be8Z n) : wpc Tryz.prog spH0 Tryz.f95.ntmps [Ann.walk 9] (bodyOf Tryz.f95) 0 64 (envA [.v] [.v (.int .u64 n)] 0) (memA [.v] [.v (.int .u64 n)] 0) (retG Tryz.prog Tryz.f95.results.toList [.ints 5 .u8 out]) :=
 Eq.mpr (by kernel_rfl) (vc_Long out n ho)
theorem out_eq (a b c d e f g h : Int) : outI [a, b, c, d, e, f, g, h] = [IntKind.u8.wrap (a.fdiv (2 ^ 24)), IntKind.u8.wrap (a.fdiv (2 ^ 16)), IntKind.u8.wrap (a.fdiv (2 ^ 8)), IntKind.u8.wrap (a.fdiv (2 ^ 0)),
 IntKind.u8.wrap (b.fdiv (2 ^ 24)), IntKind.u8.wrap (b.fdiv (2 ^ 16)), IntKind.u8.wrap (b.fdiv (2 ^ 8)), IntKind.u8.wrap (b.fdiv (2 ^ 0)),
 IntKind.u8.wrap (c.fdiv (2 ^ 24)), IntKind.u8.wrap (c.fdiv (2 ^ 16)), IntKind.u8.wrap (c.fdiv (2 ^ 8)), IntKind.u8.wrap (c.fdiv (2 ^ 0)),
 IntKind.u8.wrap (d.fdiv (2 ^ 24)), IntKind.u8.wrap (d.fdiv (2 ^ 16)), IntKind.u8.wrap (d.fdiv (2 ^ 8)), IntKind.u8.wrap (d.fdiv (2 ^ 0)),
 IntKind.u8.wrap (e.fdiv (2 ^ 24)), IntKind.u8.wrap (e.fdiv (2 ^ 16)), IntKind.u8.wrap (e.fdiv (2 ^ 8)), IntKind.u8.wrap (e.fdiv (2 ^ 0)),
 IntKind.u8.wrap (f.fdiv (2 ^ 24)), IntKind.u8.wrap (f.fdiv (2 ^ 16)), IntKind.u8.wrap (f.fdiv (2 ^ 8)), IntKind.u8.wrap (f.fdiv (2 ^ 0)),
 IntKind.u8.wrap (g.fdiv (2 ^ 24)), IntKind.u8.wrap (g.fdiv (2 ^ 16)), IntKind.u8.wrap (g.fdiv (2 ^ 8)), IntKind.u8.wrap (g.fdiv (2 ^ 0)),
 IntKind.u8.wrap (h.fdiv (2 ^ 24)), IntKind.u8.wrap (h.fdiv (2 ^ 16)), IntKind.u8.wrap (h.fdiv (2 ^ 8)), IntKind.u8.wrap (h.fdiv (2 ^ 0))] := by kernel_rfl
set_option maxHeartbeats 4000000 in
theorem vc_rsum (O : OS) (l out : List Int) (hl : l.length ≤ 1099511627776) (hp : (O.pad l).length % 64 = 0) (hq : (O.pad l).length ≤ 2199023255552) (ho : out = outI (stI O (O.pad l) ((O.pad l).length / 64))) :
 If (l.length.ble 1099511627776) ((∃ (x : Nat × (Nat → Int)), (nMul 64 x.1 ≤ (O.pad l).length ∧ EqI [x.2 0, x.2 1, x.2 2, x.2 3, x.2 4, x.2 5, x.2 6, x.2 7] (stI O (O.pad l) x.1)) ∧
  (Value.int .i64 0 = Value.int .i64 (iOf (nMul 64 x.1)) ∧ True) ∧ EqI [1779033703, 3144134277, 1013904242, 2773480762, 1359893119, 2600822924, 528734635, 1541459225] [x.2 0, x.2 1,
  x.2 2, x.2 3, x.2 4, x.2 5, x.2 6, x.2 7] ∧ EqI (O.pad l) (O.pad l) ∧ Array.mk [Value.int .u8 0, Value.int .u8 0, Value.int .u8 0, Value.int .u8 0, Value.int .u8 0, Value.int .u8 0,
  Value.int .u8 0, Value.int .u8 0, Value.int .u8 0, Value.int .u8 0, Value.int .u8 0, Value.int .u8 0, Value.int .u8 0, Value.int .u8 0, Value.int .u8 0, Value.int .u8 0, Value.int
  .u8 0, Value.int .u8 0, Value.int .u8 0, Value.int .u8 0, Value.int .u8 0, Value.int .u8 0, Value.int .u8 0, Value.int .u8 0, Value.int .u8 0, Value.int .u8 0, Value.int .u8 0,
  Value.int .u8 0, Value.int .u8 0, Value.int .u8 0, Value.int .u8 0, Value.int .u8 0] = Array.mk [Value.int .u8 0, Value.int .u8 0, Value.int .u8 0, Value.int .u8 0, Value.int .u8 0,
  Value.int .u8 0, Value.int .u8 0, Value.int .u8 0, Value.int .u8 0, Value.int .u8 0, Value.int .u8 0, Value.int .u8 0, Value.int .u8 0, Value.int .u8 0, Value.int .u8 0, Value.int
  .u8 0, Value.int .u8 0, Value.int .u8 0, Value.int .u8 0, Value.int .u8 0, Value.int .u8 0, Value.int .u8 0, Value.int .u8 0, Value.int .u8 0, Value.int .u8 0, Value.int .u8 0,
  Value.int .u8 0, Value.int .u8 0, Value.int .u8 0, Value.int .u8 0, Value.int .u8 0, Value.int .u8 0] ∧ EqI l l ∧ True) ∧ ∀ (x : Nat × (Nat → Int)), nMul 64 x.1 ≤ (O.pad l).length ∧
  EqI [x.2 0, x.2 1, x.2 2, x.2 3, x.2 4, x.2 5, x.2 6, x.2 7] (stI O (O.pad l) x.1) → If (iLt (iOf (nMul 64 x.fst)) (iOf (Cont.ints .u8 (O.pad l)).n)) (If (iLe 0 (iOf (nMul 64
  x.fst)) && iLe (iOf (nMul 64 x.fst)) (IntKind.i64.wrap (iAdd (iOf (nMul 64 x.fst)) 64)) && iLe (IntKind.i64.wrap (iAdd (iOf (nMul 64 x.fst)) 64)) (iOf (Cont.ints .u8 (O.pad l)).n))
  (If ((List.take (nSub (IntKind.i64.wrap (iAdd (iOf (nMul 64 x.fst)) 64)).toNat (iOf (nMul 64 x.fst)).toNat) (List.drop (iOf (nMul 64 x.fst)).toNat (O.pad l))).length.beq 64) (∃ (x'
  : Nat × (Nat → Int)), (nMul 64 x'.1 ≤ (O.pad l).length ∧ EqI [x'.2 0, x'.2 1, x'.2 2, x'.2 3, x'.2 4, x'.2 5, x'.2 6, x'.2 7] (stI O (O.pad l) x'.1)) ∧ (nSub (O.pad l).length
  x'.1).succ ≤ nSub (O.pad l).length x.1 ∧ (Value.int .i64 (IntKind.i64.wrap (iAdd (iOf (nMul 64 x.1)) 64)) = Value.int .i64 (iOf (nMul 64 x'.1)) ∧ True) ∧ EqI (tabI (O.mix (List.take
  (nSub (IntKind.i64.wrap (iAdd (iOf (nMul 64 x.fst)) 64)).toNat (iOf (nMul 64 x.fst)).toNat) (List.drop (iOf (nMul 64 x.fst)).toNat (O.pad l))) [x.2 0, x.2 1, x.2 2, x.2 3, x.2 4,
  x.2 5, x.2 6, x.2 7]) 8) [x'.2 0, x'.2 1, x'.2 2, x'.2 3, x'.2 4, x'.2 5, x'.2 6, x'.2 7] ∧ EqI (O.pad l) (O.pad l) ∧ Array.mk [Value.int .u8 0, Value.int .u8 0, Value.int .u8 0,
  Value.int .u8 0, Value.int .u8 0, Value.int .u8 0, Value.int .u8 0, Value.int .u8 0, Value.int .u8 0, Value.int .u8 0, Value.int .u8 0, Value.int .u8 0, Value.int .u8 0, Value.int
  .u8 0, Value.int .u8 0, Value.int .u8 0, Value.int .u8 0, Value.int .u8 0, Value.int .u8 0, Value.int .u8 0, Value.int .u8 0, Value.int .u8 0, Value.int .u8 0, Value.int .u8 0,
  Value.int .u8 0, Value.int .u8 0, Value.int .u8 0, Value.int .u8 0, Value.int .u8 0, Value.int .u8 0, Value.int .u8 0, Value.int .u8 0] = Array.mk [Value.int .u8 0, Value.int .u8 0,
  Value.int .u8 0, Value.int .u8 0, Value.int .u8 0, Value.int .u8 0, Value.int .u8 0, Value.int .u8 0, Value.int .u8 0, Value.int .u8 0, Value.int .u8 0, Value.int .u8 0, Value.int
  .u8 0, Value.int .u8 0, Value.int .u8 0, Value.int .u8 0, Value.int .u8 0, Value.int .u8 0, Value.int .u8 0, Value.int .u8 0, Value.int .u8 0, Value.int .u8 0, Value.int .u8 0,
  Value.int .u8 0, Value.int .u8 0, Value.int .u8 0, Value.int .u8 0, Value.int .u8 0, Value.int .u8 0, Value.int .u8 0, Value.int .u8 0, Value.int .u8 0] ∧ EqI l l ∧ True) False)
  False) (Value.agg (Array.mk [Value.int .u8 (IntKind.u8.wrap (([x.2 0, x.2 1, x.2 2, x.2 3, x.2 4, x.2 5, x.2 6, x.2 7].getD 0 0).fdiv (iPow 2 24))), Value.int .u8 (IntKind.u8.wrap
  (([x.2 0, x.2 1, x.2 2, x.2 3, x.2 4, x.2 5, x.2 6, x.2 7].getD 0 0).fdiv (iPow 2 16))), Value.int .u8 (IntKind.u8.wrap (([x.2 0, x.2 1, x.2 2, x.2 3, x.2 4, x.2 5, x.2 6, x.2
  7].getD 0 0).fdiv (iPow 2 8))), Value.int .u8 (IntKind.u8.wrap (([x.2 0, x.2 1, x.2 2, x.2 3, x.2 4, x.2 5, x.2 6, x.2 7].getD 0 0).fdiv (iPow 2 0))), Value.int .u8 (IntKind.u8.wrap
  (([x.2 0, x.2 1, x.2 2, x.2 3, x.2 4, x.2 5, x.2 6, x.2 7].getD 1 0).fdiv (iPow 2 24))), Value.int .u8 (IntKind.u8.wrap (([x.2 0, x.2 1, x.2 2, x.2 3, x.2 4, x.2 5, x.2 6, x.2
  7].getD 1 0).fdiv (iPow 2 16))), Value.int .u8 (IntKind.u8.wrap (([x.2 0, x.2 1, x.2 2, x.2 3, x.2 4, x.2 5, x.2 6, x.2 7].getD 1 0).fdiv (iPow 2 8))), Value.int .u8
  (IntKind.u8.wrap (([x.2 0, x.2 1, x.2 2, x.2 3, x.2 4, x.2 5, x.2 6, x.2 7].getD 1 0).fdiv (iPow 2 0))), Value.int .u8 (IntKind.u8.wrap (([x.2 0, x.2 1, x.2 2, x.2 3, x.2 4, x.2 5,
  x.2 6, x.2 7].getD 2 0).fdiv (iPow 2 24))), Value.int .u8 (IntKind.u8.wrap (([x.2 0, x.2 1, x.2 2, x.2 3, x.2 4, x.2 5, x.2 6, x.2 7].getD 2 0).fdiv (iPow 2 16))), Value.int .u8
  (IntKind.u8.wrap (([x.2 0, x.2 1, x.2 2, x.2 3, x.2 4, x.2 5, x.2 6, x.2 7].getD 2 0).fdiv (iPow 2 8))), Value.int .u8 (IntKind.u8.wrap (([x.2 0, x.2 1, x.2 2, x.2 3, x.2 4, x.2 5,
  x.2 6, x.2 7].getD 2 0).fdiv (iPow 2 0))), Value.int .u8 (IntKind.u8.wrap (([x.2 0, x.2 1, x.2 2, x.2 3, x.2 4, x.2 5, x.2 6, x.2 7].getD 3 0).fdiv (iPow 2 24))), Value.int .u8
  (IntKind.u8.wrap (([x.2 0, x.2 1, x.2 2, x.2 3, x.2 4, x.2 5, x.2 6, x.2 7].getD 3 0).fdiv (iPow 2 16))), Value.int .u8 (IntKind.u8.wrap (([x.2 0, x.2 1, x.2 2, x.2 3, x.2 4, x.2 5,
  x.2 6, x.2 7].getD 3 0).fdiv (iPow 2 8))), Value.int .u8 (IntKind.u8.wrap (([x.2 0, x.2 1, x.2 2, x.2 3, x.2 4, x.2 5, x.2 6, x.2 7].getD 3 0).fdiv (iPow 2 0))), Value.int .u8
  (IntKind.u8.wrap (([x.2 0, x.2 1, x.2 2, x.2 3, x.2 4, x.2 5, x.2 6, x.2 7].getD 4 0).fdiv (iPow 2 24))), Value.int .u8 (IntKind.u8.wrap (([x.2 0, x.2 1, x.2 2, x.2 3, x.2 4, x.2 5,
  x.2 6, x.2 7].getD 4 0).fdiv (iPow 2 16))), Value.int .u8 (IntKind.u8.wrap (([x.2 0, x.2 1, x.2 2, x.2 3, x.2 4, x.2 5, x.2 6, x.2 7].getD 4 0).fdiv (iPow 2 8))), Value.int .u8
  (IntKind.u8.wrap (([x.2 0, x.2 1, x.2 2, x.2 3, x.2 4, x.2 5, x.2 6, x.2 7].getD 4 0).fdiv (iPow 2 0))), Value.int .u8 (IntKind.u8.wrap (([x.2 0, x.2 1, x.2 2, x.2 3, x.2 4, x.2 5,
  x.2 6, x.2 7].getD 5 0).fdiv (iPow 2 24))), Value.int .u8 (IntKind.u8.wrap (([x.2 0, x.2 1, x.2 2, x.2 3, x.2 4, x.2 5, x.2 6, x.2 7].getD 5 0).fdiv (iPow 2 16))), Value.int .u8
  (IntKind.u8.wrap (([x.2 0, x.2 1, x.2 2, x.2 3, x.2 4, x.2 5, x.2 6, x.2 7].getD 5 0).fdiv (iPow 2 8))), Value.int .u8 (IntKind.u8.wrap (([x.2 0, x.2 1, x.2 2, x.2 3, x.2 4, x.2 5,
  x.2 6, x.2 7].getD 5 0).fdiv (iPow 2 0))), Value.int .u8 (IntKind.u8.wrap (([x.2 0, x.2 1, x.2 2, x.2 3, x.2 4, x.2 5, x.2 6, x.2 7].getD 6 0).fdiv (iPow 2 24))), Value.int .u8
  (IntKind.u8.wrap (([x.2 0, x.2 1, x.2 2, x.2 3, x.2 4, x.2 5, x.2 6, x.2 7].getD 6 0).fdiv (iPow 2 16))), Value.int .u8 (IntKind.u8.wrap (([x.2 0, x.2 1, x.2 2, x.2 3, x.2 4, x.2 5,
  x.2 6, x.2 7].getD 6 0).fdiv (iPow 2 8))), Value.int .u8 (IntKind.u8.wrap (([x.2 0, x.2 1, x.2 2, x.2 3, x.2 4, x.2 5, x.2 6, x.2 7].getD 6 0).fdiv (iPow 2 0))), Value.int .u8
  (IntKind.u8.wrap (([x.2 0, x.2 1, x.2 2, x.2 3, x.2 4, x.2 5, x.2 6, x.2 7].getD 7 0).fdiv (iPow 2 24))), Value.int .u8 (IntKind.u8.wrap (([x.2 0, x.2 1, x.2 2, x.2 3, x.2 4, x.2 5,
  x.2 6, x.2 7].getD 7 0).fdiv (iPow 2 16))), Value.int .u8 (IntKind.u8.wrap (([x.2 0, x.2 1, x.2 2, x.2 3, x.2 4, x.2 5, x.2 6, x.2 7].getD 7 0).fdiv (iPow 2 8))), Value.int .u8
  (IntKind.u8.wrap (([x.2 0, x.2 1, x.2 2, x.2 3, x.2 4, x.2 5, x.2 6, x.2 7].getD 7 0).fdiv (iPow 2 0)))]) = Value.agg (Array.mk (List.map (Value.int .u8) out)) ∧ True)) False := by
 simp only [Sx.app, Sx.nAdd, Sx.nSub, Sx.nMul, Sx.nPow, Sx.nDiv, Sx.nMod, Sx.iAdd, Sx.iSub, Sx.iMul, Sx.iNeg, Sx.iPow, Sx.iOf]
 refine Sx.if_true (by simpa only [Nat.ble_eq] using hl) ⟨⟨(0, fun i => HI.getD i 0), ⟨Nat.zero_le _, rfl⟩, ⟨rfl, trivial⟩, rfl, (by first | rfl | trivial), (by first | rfl | trivial), (by first | rfl | trivial), trivial⟩, ?_⟩
 rintro ⟨n, h⟩ ⟨hx1, hx2⟩
 have w : IntKind.i64.wrap (((64 * n : Nat) : Int) + 64) = ((64 * (n + 1) : Nat) : Int) := by
  rw [IntWalk.i64_in _ (by simp only at hx1; omega)]; omega
 refine Sx.if_both (fun hc => ?_) (fun hc => ?_)
 ·have hc' : 64 * n < (O.pad l).length := by simp only [Sx.Bz, Sx.Cont.n] at hc; omega
  have hc2 : 64 * (n + 1) ≤ (O.pad l).length := by omega
  have e1 : List.take ((IntKind.i64.wrap (((64 * n : Nat) : Int) + 64)).toNat - (((64 * n : Nat) : Int)).toNat) (List.drop (((64 * n : Nat) : Int)).toNat (O.pad l)) = ((O.pad l).drop (64 * n)).take 64 := by
   rw [w]; simp only [Int.toNat_natCast]; congr 1; omega
  refine Sx.if_true ?_ (Sx.if_true ?_ ⟨(n + 1, fun i => O.mix (((O.pad l).drop (64 * n)).take 64) [h 0, h 1, h 2, h 3, h 4, h 5, h 6, h 7] i), ⟨hc2, ?_⟩, ?_, ⟨?_, trivial⟩, ?_, (by first | rfl | trivial), (by first | rfl | trivial), (by first | rfl | trivial), trivial⟩)
  ·simp only at hx1 ⊢
   rw [w]
   simp only [Sx.Bz, Sx.Cont.n]
   omega
  ·simp only at hx1 ⊢
   rw [e1]
   simp only [Nat.beq_eq, List.length_take, List.length_drop]
   omega
  ·simp only at hx2 ⊢
   rw [stI, ← hx2]
   rfl
  ·simp only; omega
  ·simp only; rw [w]
  ·simp only at hx2 ⊢
   rw [e1]
   rfl
 ·have hc' : ¬ 64 * n < (O.pad l).length := by simp only [Sx.Bz, Sx.Cont.n] at hc; omega
  have hn : n = (O.pad l).length / 64 := by simp only at hx1; omega
  subst hn
  simp only at hx2
  refine ⟨?_, trivial⟩
  rw [ho, ← hx2, out_eq]
  rfl
theorem wpc_rsum (O : OS) (l out : List Int) (hl : l.length ≤ 1099511627776) (hp : (O.pad l).length % 64 = 0) (hq : (O.pad l).length ≤ 2199023255552) (ho : out = outI (stI O (O.pad l) ((O.pad l).length / 64))) : wpc Tryz.prog (spR4 O) Tryz.f96.ntmps (anS O (O.pad l) 25 5) (bodyOf Tryz.f96) 0 64 (envA [.ro .u8] [.ints l] 0) (memA [.ro .u8] [.ints l] 0) (retG Tryz.prog Tryz.f96.results.toList [.v (cellsOf .u8 out)]) :=
 Eq.mpr (by kernel_rfl) (vc_rsum O l out hl hp hq ho)
theorem be8_len (n : Int) : (be8Z n).length = 8 := by kernel_rfl
theorem pad_len (l : List Int) : (padI l).length = l.length + 9 + zerI l.length := by simp [padI, be8_len]; omega
theorem pad_mod (l : List Int) : (padI l).length % 64 = 0 := by rw [pad_len]; unfold zerI; omega
theorem pad_low (l : List Int) (h : l.length ≤ 1099511627776) : (padI l).length ≤ 2199023255552 := by
 have : zerI l.length < 64 := Nat.mod_lt _ (by decide)
 rw [pad_len]; omega
theorem out_len (h : List Int) : (outI h).length = 32 := by kernel_rfl
def os0 : OS := ⟨om.mix, padI, be8Z, fun _ _ => 0, fun _ _ _ => 0⟩
def sumI (l : List Int) : List Int := outI (stI os0 (padI l) ((padI l).length / 64))
theorem sum_tab (l : List Int) : tabI (fun i => (sumI l).getD i 0) 32 = sumI l := tab_self (out_len _)
def tagB (O : OS) (s : List Int) (ps : List (List Int)) : List Int := O.be8 (s.length : Int) ++ s ++ ps.flatMap fun p => O.be8 (p.length : Int) ++ p
def os : OS := ⟨om.mix, padI, be8Z, fun l i => (sumI l).getD i 0, fun s ps i => (sumI (tagB os0 (strI s) ps)).getD i 0⟩
theorem stI_os (p : List Int) : ∀ n, stI os p n = stI os0 p n
 | 0 => by rw [stI, stI]
 | n + 1 => by rw [stI, stI, stI_os p n, show os.mix = os0.mix by kernel_rfl]
theorem ok_padded (I : Sx.Interp) (O : OS) (hO : O = os) : Sx.SpecOK I Tryz.prog 107 (gspec [.ro .u8] (g_padded O)) := by
 refine spec_genA (spH0_ok I) (by kernel_rfl) (fun xs => match xs with | [.ints l] => anPad l 5 | _ => []) Tryz.func107 (by kernel_rfl) (by kernel_rfl) rfl Tryz.ntmps107 (by decide) ?_ ?_
 ·intro xs p rs h; unfold g_padded at h; split at h <;> first | (simp only [Option.some.injEq, Prod.mk.injEq] at h; rw [← h.2]; simp) | cases h
 ·intro xs rs hl h
  unfold g_padded at h
  split at h
  ·simp only [Option.some.injEq, Prod.mk.injEq] at h
   obtain ⟨hc, rfl⟩ := h
   subst hO
   exact wpc_padded _ _ (Nat.le_of_ble_eq_true hc) (by kernel_rfl)
  ·cases h
theorem ok_Long (I : Sx.Interp) (O : OS) (hO : O = os) : Sx.SpecOK I Tryz.prog 95 (gspec [.v] (g_Long O)) := by
 refine spec_gen (spH0_ok I) (by kernel_rfl) [Ann.walk 9] Tryz.func95 (by kernel_rfl) (by kernel_rfl) rfl Tryz.ntmps95 (by decide) ?_ ?_
 ·intro xs p rs h; unfold g_Long at h; split at h <;> first | (simp only [Option.some.injEq, Prod.mk.injEq] at h; rw [← h.2]; simp) | cases h
 ·intro xs rs hl h
  unfold g_Long at h
  split at h
  ·simp only [Option.some.injEq, Prod.mk.injEq] at h
   obtain ⟨hc, rfl⟩ := h
   subst hO
   exact wpc_Long _ _ (by kernel_rfl)
  ·cases h
theorem spR4_ok (I : Sx.Interp) (O : OS) (hO : O = os) : ∀ f s, spR4 O f = some s → Sx.SpecOK I Tryz.prog f s := by
 intro f s h
 unfold spR4 at h
 split at h
 ·cases h; exact ok_padded I O hO
 ·cases h; exact ok_firsts I oh rfl
 ·cases h; subst hO; rw [show (OM.mk os.mix) = om by kernel_rfl]; exact ok_block I oh rfl
 ·cases h
def HV (h : Nat → Int) : Value := cellsOf .u8 (tabI h 32)
def g_sum (O : OS) (xs : List Arg) : Option (Bool × List Ret) := match xs with
 | [.ints l] => some (Nat.ble l.length 1099511627776, [.v (HV (O.sum l))])
 | _ => none
theorem ok_rsum (I : Sx.Interp) (O : OS) (hO : O = os) : Sx.SpecOK I Tryz.prog 96 (gspec [.ro .u8] (g_sum O)) := by
 refine spec_genA (spR4_ok I O hO) (by kernel_rfl) (fun xs => match xs with | [.ints l] => anS O (O.pad l) 25 5 | _ => []) Tryz.func96 (by kernel_rfl) (by kernel_rfl) rfl Tryz.ntmps96 (by decide) ?_ ?_
 ·intro xs p rs h; unfold g_sum at h; split at h <;> first | (simp only [Option.some.injEq, Prod.mk.injEq] at h; rw [← h.2]; simp) | cases h
 ·intro xs rs hl h
  unfold g_sum at h
  split at h
  ·rename_i l
   simp only [Option.some.injEq, Prod.mk.injEq] at h
   obtain ⟨hc, rfl⟩ := h
   have hc := Nat.le_of_ble_eq_true hc
   have := wpc_rsum O l (sumI l) hc (by subst hO; rw [show os.pad = padI by kernel_rfl]; exact pad_mod l) (by subst hO; rw [show os.pad = padI by kernel_rfl]; exact pad_low l hc) (by subst hO; rw [stI_os, show os.pad = padI by kernel_rfl]; unfold sumI; rfl)
   have e : HV (O.sum l) = cellsOf .u8 (sumI l) := by subst hO; unfold HV; rw [show os.sum l = fun i => (sumI l).getD i 0 by kernel_rfl, sum_tab]
   rw [e]
   exact this
  ·cases h
end Go.Proofs.YtcdmmfelagbpdaaGreat
