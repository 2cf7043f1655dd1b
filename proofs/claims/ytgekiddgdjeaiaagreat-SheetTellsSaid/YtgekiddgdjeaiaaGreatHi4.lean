/- SHA-256 of bytes by the symbolic machine: the padding, eight bytes of a number, a copy, the sum of the document's (VCs printed by VcTool, proofs by hand). -/
import Derived.Test.YtgekiddgdjeaiaaGreatHi3
import Derived.IntWalk
import Derived.Test.YtgekiddgdjeaiaaGreatVn
namespace Go.Proofs.YtgekiddgdjeaiaaGreat
open Go.RowKit Go.Lib Sx
open IntKind (i64 u64 u8 i32 u32)
set_option linter.unusedVariables false
set_option linter.unusedSimpArgs false
set_option maxRecDepth 1000000
set_option maxHeartbeats 4000000
def adg (n : Nat) : Nat := (119 - n % 64) % 64
def beZ (n : Int) (k : Nat) : Int := u8.wrap (n.fdiv (2 ^ k))
def ao6 (n : Int) : List Int := [beZ n 56, beZ n 48, beZ n 40, beZ n 32, beZ n 24, beZ n 16, beZ n 8, beZ n 0]
def ake (l : List Int) : List Int := l ++ 128 :: List.replicate (adg l.length) 0 ++ ao6 (8 * (l.length : Int))
def bpx (l : List Int) (e : TypeId) : List Ann := [
 ⟨Nat, [0], [(3, e, .ints .u8 [])], fun B _ => [(3, .row B)], fun B j => [(B, .own e (.ints .u8 (l ++ 128 :: List.replicate j 0)))], fun j => j ≤ adg l.length, fun j => adg l.length - j, 0⟩,
 Ann.walk 9]
structure OS where
 mix : List Int → List Int → Nat → Int
 pad : List Int → List Int
 be8 : Int → List Int
 sum : List Int → Nat → Int
 tag : ByteArray → List (List Int) → Nat → Int
def ai4 (O : OS) (xs : List Arg) : Option (Bool × List Ret) := match xs with
 | [.ints l] => some (Nat.ble l.length 1099511627776, [.ints 5 .u8 (O.pad l)])
 | _ => none
def ama (xs : List Arg) : Option (Bool × List Ret) := match xs with
 | [.ints l] => some (Nat.ble l.length 1099511627776, [.ints 5 .u8 l])
 | _ => none
def bkx (O : OS) (xs : List Arg) : Option (Bool × List Ret) := match xs with
 | [.ints l, .v (.int .i64 n)] => some (Nat.ble l.length 2199023255552, [.ints 5 .u8 (l ++ O.be8 n)])
 | _ => none
def apc (O : OS) (xs : List Arg) : Option (Bool × List Ret) := match xs with
 | [.v (.int .u64 n)] => some (true, [.ints 5 .u8 (O.be8 n)])
 | _ => none
def stI (O : OS) (p : List Int) : Nat → List Int
 | 0 => HI
 | n + 1 => jo (O.mix ((p.drop (64 * n)).take 64) (stI O p n)) 8
def beg (h : List Int) : List Int := jo (fun i => u8.wrap ((h.getD (i / 4) 0).fdiv (2 ^ (24 - 8 * (i % 4))))) 32
def bnn (O : OS) (f : FuncId) : Option Sx.Spec := match f with
 | 125 => some (l7 [.ro .u8] (ai4 O))
 | 126 => some (l7 [] (ag7 141 .u32 HI))
 | 127 => some (l7 [.ro .u32, .ro .u8] (amo ⟨O.mix⟩))
 | _ => none
abbrev w8 (x : Nat → Int) : List Int := [x 0, x 1, x 2, x 3, x 4, x 5, x 6, x 7]
def anS (O : OS) (p : List Int) (e4 e1 : TypeId) : List Ann := [
 ⟨Nat × (Nat → Int), [0, 2], [(4, e4, .ints .u32 []), (3, e1, .ints .u8 [])], fun B x => [(4, .row B), (3, .row (B+1)), (5, .v (.int .i64 ((64 * x.1 : Nat) : Int)))], fun B x => [(B, .own e4 (.ints .u32 (w8 x.2))), (B+1, .ro (.ints .u8 p))], fun x => 64 * x.1 ≤ p.length ∧ w8 x.2 = stI O p x.1, fun x => p.length - x.1, 0⟩,
 Ann.walk 33]
theorem a6q (l out : List Int) (hl : l.length ≤ 1099511627776) (ho : out = ake l) :
 let T1 := u64.wrap (aa9 8 (u64.wrap (iOf l.length))); If ((jd (ay 0 l.length) 1).ble 140737488355328 && (ay 0 l.length).ble 9223372036854775807) (If ((jd
  (ay (app [] l).length 1) 1).ble 140737488355328 && (ay (app [] l).length 1).ble 9223372036854775807) ((∃ (x : Nat), x ≤ adg l.length ∧ True ∧ EqI (app (app [] l) [128]) (app l
  (128 :: List.replicate x 0)) ∧ EqI l l ∧ True) ∧ ∀ (x : Nat), let T2 := app (app (app (app (app l (128 :: List.replicate x 0)) [u8.wrap (T1.fdiv (df 2 56))]) [u8.wrap (T1.fdiv (df 2 48))]) [u8.wrap (T1.fdiv (df 2 40))]) [u8.wrap (T1.fdiv (df 2 32))];
  let T3 := app (app l (128 :: List.replicate x 0)) [u8.wrap (T1.fdiv (df 2 56))]; let T4 := app (app T2 [u8.wrap (T1.fdiv (df 2 24))]) [u8.wrap (T1.fdiv (df 2 16))];
  let T5 := ay (app (app T3 [u8.wrap (T1.fdiv (df 2 48))]) [u8.wrap (T1.fdiv (df 2 40))]).length [u8.wrap (T1.fdiv (df 2 32))].length; let T6 := ay (app T3 [u8.wrap (T1.fdiv (df 2 48))]).length [u8.wrap (T1.fdiv (df 2 40))].length;
  let T7 := ay (app T2 [u8.wrap (T1.fdiv (df 2 24))]).length [u8.wrap (T1.fdiv (df 2 16))].length; let T8 := ay (app T4 [u8.wrap (T1.fdiv (df 2 8))]).length [u8.wrap (T1.fdiv (df 2 0))].length;
  let T9 := ay (app l (128 :: List.replicate x 0)).length [u8.wrap (T1.fdiv (df 2 56))].length; let T10 := ay T3.length [u8.wrap (T1.fdiv (df 2 48))].length;
  let T11 := ay T2.length [u8.wrap (T1.fdiv (df 2 24))].length; let T12 := ay T4.length [u8.wrap (T1.fdiv (df 2 8))].length; let T13 := ay (app l (128 :: List.replicate x 0)).length 1;
  x ≤ adg l.length → If (qc ((iOf (app l (128 :: List.replicate x 0)).length).tmod 64) 56) (If ((jd T13 1).ble 140737488355328 && T13.ble 9223372036854775807) (∃ (x' : Nat), x' ≤
  adg l.length ∧ (iy (adg l.length) x').succ ≤ iy (adg l.length) x ∧ True ∧ EqI (app (app l (128 :: List.replicate x 0)) [0]) (app l (128 :: List.replicate x' 0)) ∧ EqI l l ∧
  True) False) (If ((jd T9 1).ble 140737488355328 && T9.ble 9223372036854775807) (If ((jd T10 1).ble 140737488355328 && T10.ble 9223372036854775807) (If ((jd T6 1).ble
  140737488355328 && T6.ble 9223372036854775807) (If ((jd T5 1).ble 140737488355328 && T5.ble 9223372036854775807) (If ((jd T11 1).ble 140737488355328 && T11.ble
  9223372036854775807) (If ((jd T7 1).ble 140737488355328 && T7.ble 9223372036854775807) (If ((jd T12 1).ble 140737488355328 && T12.ble 9223372036854775807) (If ((jd T8 1).ble
  140737488355328 && T8.ble 9223372036854775807) (EqI (app (app T4 [u8.wrap (T1.fdiv (df 2 8))]) [u8.wrap (T1.fdiv (df 2 0))]) out ∧ True) False) False) False)
  False) False) False) False) False)) False) False := by
 conv => zeta
 simp only [zUn]
 have hz : adg l.length < 64 := Nat.mod_lt _ (by decide)
 have hz2 : (l.length + 1 + adg l.length) % 64 = 56 := by unfold adg; omega
 refine ziT (by simp only [Sx.app, ay, jd, zaT, Nat.ble_eq, Nat.beq_eq, zlA, List.length_cons, List.length_nil, List.length_replicate]; omega) (ziT (by simp only [Sx.app, ay, jd, zaT, Nat.ble_eq, Nat.beq_eq, zlA, List.length_cons, List.length_nil, List.length_replicate]; omega) ⟨⟨0, Nat.zero_le _, trivial, by simp, (by first | rfl | trivial), trivial⟩, fun x hx => ae (fun h => ?_) (fun h => ?_)⟩)
 ·have hx2 : x < adg l.length := by
   rcases Nat.lt_or_ge x (adg l.length) with h1 | h1
   ·exact h1
   ·obtain rfl : x = adg l.length := Nat.le_antisymm hx h1
    rw [IntWalk.rem_in _ _ (by omega)] at h
    simp only [Bz, Sx.af.n, zlA, List.length_cons, List.length_replicate] at h
    omega
  refine ziT (by simp only [Sx.app, ay, jd, zaT, Nat.ble_eq, Nat.beq_eq, zlA, List.length_cons, List.length_nil, List.length_replicate]; omega) ⟨x + 1, hx2, by omega, trivial, ?_, (by first | rfl | trivial), trivial⟩
  simp [List.replicate_succ', List.append_assoc]
 ·have hx2 : x = adg l.length := by
   rw [IntWalk.rem_in _ _ (by omega)] at h
   simp only [Bz, Sx.af.n, zlA, List.length_cons, List.length_replicate] at h
   unfold adg at hx ⊢
   omega
  iterate 8 refine ziT (by simp only [Sx.app, ay, jd, zaT, Nat.ble_eq, Nat.beq_eq, zlA, List.length_cons, List.length_nil, List.length_replicate]; omega) ?_
  subst hx2
  refine ⟨?_, trivial⟩
  have e : u64.wrap (8 * u64.wrap (l.length : Int)) = 8 * (l.length : Int) := by
   rw [IntKind.wrap_u64, IntKind.wrap_u64]; omega
  rw [ho, e]
  simp [ake, ao6, beZ]
theorem wpc_padded (l out : List Int) (hl : l.length ≤ 1099511627776) (ho : out = ake l) : wpc Tryz.prog bqp Tryz.f125.ntmps (bpx l 5) (wu Tryz.f125) 0 64 (ae5 [.ro .u8] [.ints l] 0) (afm [.ro .u8] [.ints l] 0) (aph Tryz.prog Tryz.f125.results.toList [.ints 5 .u8 out]) :=
 Eq.mpr (by kernel_rfl) (a6q l out hl ho)
theorem bex (l out : List Int) (hl : l.length ≤ 1099511627776) (ho : out = l) :
 If (l.length.beq 0) (EqI out [] ∧ True) True ∧ If ((jd (ay 0 l.length) 1).ble 140737488355328 && (ay 0 l.length).ble 9223372036854775807) (EqI (app [] l) out ∧ True) False := by
 simp only [zUn]
 refine ⟨ae (fun h => ⟨?_, trivial⟩) (fun _ => trivial), ziT (by simp only [Sx.app, ay, jd, zaT, Nat.ble_eq, Nat.beq_eq, zlA, List.length_cons, List.length_nil, List.length_replicate]; omega) ⟨by simp [ho], trivial⟩⟩
 rw [ho]; exact List.eq_nil_of_length_eq_zero (zbE h)
theorem bj2 (out : List Int) (n : Int) (ho : out = ao6 n) :
 EqI (app (app (app (app (app (app (app [u8.wrap (n.fdiv (df 2 56))] [u8.wrap (n.fdiv (df 2 48))]) [u8.wrap (n.fdiv (df 2 40))]) [u8.wrap (n.fdiv (df 2 32))]) [u8.wrap (n.fdiv (df 2 24))]) [u8.wrap (n.fdiv (df 2 16))]) [u8.wrap (n.fdiv (df 2 8))]) [u8.wrap (n.fdiv (df 2 0))]) out ∧ True := by
 simp only [zUn]
 refine ⟨?_, trivial⟩
 rw [ho]
 rfl
theorem wpc_Long (out : List Int) (n : Int) (ho : out = ao6 n) : wpc Tryz.prog bqp Tryz.f120.ntmps [Ann.walk 9] (wu Tryz.f120) 0 64 (ae5 [.v] [.v (.int .u64 n)] 0) (afm [.v] [.v (.int .u64 n)] 0) (aph Tryz.prog Tryz.f120.results.toList [.ints 5 .u8 out]) :=
 Eq.mpr (by kernel_rfl) (bj2 out n ho)
theorem bob (a b c d e f g h : Int) : beg [a, b, c, d, e, f, g, h] = [u8.wrap (a.fdiv (2 ^ 24)), u8.wrap (a.fdiv (2 ^ 16)), u8.wrap (a.fdiv (2 ^ 8)), u8.wrap (a.fdiv (2 ^ 0)),
 u8.wrap (b.fdiv (2 ^ 24)), u8.wrap (b.fdiv (2 ^ 16)), u8.wrap (b.fdiv (2 ^ 8)), u8.wrap (b.fdiv (2 ^ 0)),
 u8.wrap (c.fdiv (2 ^ 24)), u8.wrap (c.fdiv (2 ^ 16)), u8.wrap (c.fdiv (2 ^ 8)), u8.wrap (c.fdiv (2 ^ 0)),
 u8.wrap (d.fdiv (2 ^ 24)), u8.wrap (d.fdiv (2 ^ 16)), u8.wrap (d.fdiv (2 ^ 8)), u8.wrap (d.fdiv (2 ^ 0)),
 u8.wrap (e.fdiv (2 ^ 24)), u8.wrap (e.fdiv (2 ^ 16)), u8.wrap (e.fdiv (2 ^ 8)), u8.wrap (e.fdiv (2 ^ 0)),
 u8.wrap (f.fdiv (2 ^ 24)), u8.wrap (f.fdiv (2 ^ 16)), u8.wrap (f.fdiv (2 ^ 8)), u8.wrap (f.fdiv (2 ^ 0)),
 u8.wrap (g.fdiv (2 ^ 24)), u8.wrap (g.fdiv (2 ^ 16)), u8.wrap (g.fdiv (2 ^ 8)), u8.wrap (g.fdiv (2 ^ 0)),
 u8.wrap (h.fdiv (2 ^ 24)), u8.wrap (h.fdiv (2 ^ 16)), u8.wrap (h.fdiv (2 ^ 8)), u8.wrap (h.fdiv (2 ^ 0))] := by kernel_rfl
theorem bf0 (O : OS) (l out : List Int) (hl : l.length ≤ 1099511627776) (hp : (O.pad l).length % 64 = 0) (hq : (O.pad l).length ≤ 2199023255552) (ho : out = beg (stI O (O.pad l) ((O.pad l).length / 64))) :
 If (l.length.ble 1099511627776) ((∃ (x : Nat × (Nat → Int)), (jd 64 x.1 ≤ (O.pad l).length ∧ EqI [x.2 0, x.2 1, x.2 2, x.2 3, x.2 4, x.2 5, x.2 6, x.2 7] (stI O (O.pad l) x.1)) ∧ (vI 0 = vI (iOf (jd 64 x.1)) ∧ True) ∧ EqI [1779033703, 3144134277, 1013904242, 2773480762, 1359893119, 2600822924, 528734635, 1541459225] [x.2 0, x.2 1, x.2 2, x.2 3, x.2 4, x.2 5, x.2 6, x.2 7] ∧ EqI (O.pad l) (O.pad l) ∧ Array.mk [Value.int .u8 0, Value.int .u8 0, Value.int .u8 0, Value.int .u8 0, Value.int .u8 0, Value.int .u8 0, Value.int .u8 0, Value.int .u8 0, Value.int .u8 0, Value.int .u8 0, Value.int .u8 0, Value.int .u8 0, Value.int .u8 0, Value.int .u8 0, Value.int .u8 0, Value.int .u8 0, Value.int .u8 0, Value.int .u8 0, Value.int .u8 0, Value.int .u8 0, Value.int .u8 0, Value.int .u8 0, Value.int .u8 0, Value.int .u8 0, Value.int .u8 0, Value.int .u8 0, Value.int .u8 0, Value.int .u8 0, Value.int .u8 0, Value.int .u8 0, Value.int .u8 0, Value.int .u8 0] = Array.mk [Value.int .u8 0, Value.int .u8 0, Value.int .u8 0, Value.int .u8 0, Value.int .u8 0, Value.int .u8 0, Value.int .u8 0, Value.int .u8 0, Value.int .u8 0, Value.int .u8 0, Value.int .u8 0, Value.int .u8 0, Value.int .u8 0, Value.int .u8 0, Value.int .u8 0, Value.int .u8 0, Value.int .u8 0, Value.int .u8 0, Value.int .u8 0, Value.int .u8 0, Value.int .u8 0, Value.int .u8 0, Value.int .u8 0, Value.int .u8 0, Value.int .u8 0, Value.int .u8 0, Value.int .u8 0, Value.int .u8 0, Value.int .u8 0, Value.int .u8 0, Value.int .u8 0, Value.int .u8 0] ∧ EqI l l ∧ True) ∧ ∀ (x : Nat × (Nat → Int)), jd 64 x.1 ≤ (O.pad l).length ∧ EqI [x.2 0, x.2 1, x.2 2, x.2 3, x.2 4, x.2 5, x.2 6, x.2 7] (stI O (O.pad l) x.1) → If (iLt (iOf (jd 64 x.fst)) (iOf (af.ints .u8 (O.pad l)).n)) (If (iLe 0 (iOf (jd 64 x.fst)) && iLe (iOf (jd 64 x.fst)) (i64.wrap (dh (iOf (jd 64 x.fst)) 64)) && iLe (i64.wrap (dh (iOf (jd 64 x.fst)) 64)) (iOf (af.ints .u8 (O.pad l)).n)) (If ((List.take (iy (i64.wrap (dh (iOf (jd 64 x.fst)) 64)).toNat (iOf (jd 64 x.fst)).toNat) (List.drop (iOf (jd 64 x.fst)).toNat (O.pad l))).length.beq 64) (∃ (x' : Nat × (Nat → Int)), (jd 64 x'.1 ≤ (O.pad l).length ∧ EqI [x'.2 0, x'.2 1, x'.2 2, x'.2 3, x'.2 4, x'.2 5, x'.2 6, x'.2 7] (stI O (O.pad l) x'.1)) ∧ (iy (O.pad l).length x'.1).succ ≤ iy (O.pad l).length x.1 ∧ (vI (i64.wrap (dh (iOf (jd 64 x.1)) 64)) = vI (iOf (jd 64 x'.1)) ∧ True) ∧ EqI (jo (O.mix (List.take (iy (i64.wrap (dh (iOf (jd 64 x.fst)) 64)).toNat (iOf (jd 64 x.fst)).toNat) (List.drop (iOf (jd 64 x.fst)).toNat (O.pad l))) [x.2 0, x.2 1, x.2 2, x.2 3, x.2 4, x.2 5, x.2 6, x.2 7]) 8) [x'.2 0, x'.2 1, x'.2 2, x'.2 3, x'.2 4, x'.2 5, x'.2 6, x'.2 7] ∧ EqI (O.pad l) (O.pad l) ∧ Array.mk [Value.int .u8 0, Value.int .u8 0, Value.int .u8 0, Value.int .u8 0, Value.int .u8 0, Value.int .u8 0, Value.int .u8 0, Value.int .u8 0, Value.int .u8 0, Value.int .u8 0, Value.int .u8 0, Value.int .u8 0, Value.int .u8 0, Value.int .u8 0, Value.int .u8 0, Value.int .u8 0, Value.int .u8 0, Value.int .u8 0, Value.int .u8 0, Value.int .u8 0, Value.int .u8 0, Value.int .u8 0, Value.int .u8 0, Value.int .u8 0, Value.int .u8 0, Value.int .u8 0, Value.int .u8 0, Value.int .u8 0, Value.int .u8 0, Value.int .u8 0, Value.int .u8 0, Value.int .u8 0] = Array.mk [Value.int .u8 0, Value.int .u8 0, Value.int .u8 0, Value.int .u8 0, Value.int .u8 0, Value.int .u8 0, Value.int .u8 0, Value.int .u8 0, Value.int .u8 0, Value.int .u8 0, Value.int .u8 0, Value.int .u8 0, Value.int .u8 0, Value.int .u8 0, Value.int .u8 0, Value.int .u8 0, Value.int .u8 0, Value.int .u8 0, Value.int .u8 0, Value.int .u8 0, Value.int .u8 0, Value.int .u8 0, Value.int .u8 0, Value.int .u8 0, Value.int .u8 0, Value.int .u8 0, Value.int .u8 0, Value.int .u8 0, Value.int .u8 0, Value.int .u8 0, Value.int .u8 0, Value.int .u8 0] ∧ EqI l l ∧ True) False) False) (Value.agg (Array.mk [Value.int .u8 (u8.wrap (([x.2 0, x.2 1, x.2 2, x.2 3, x.2 4, x.2 5, x.2 6, x.2 7].getD 0 0).fdiv (df 2 24))), Value.int .u8 (u8.wrap (([x.2 0, x.2 1, x.2 2, x.2 3, x.2 4, x.2 5, x.2 6, x.2 7].getD 0 0).fdiv (df 2 16))), Value.int .u8 (u8.wrap (([x.2 0, x.2 1, x.2 2, x.2 3, x.2 4, x.2 5, x.2 6, x.2 7].getD 0 0).fdiv (df 2 8))), Value.int .u8 (u8.wrap (([x.2 0, x.2 1, x.2 2, x.2 3, x.2 4, x.2 5, x.2 6, x.2 7].getD 0 0).fdiv (df 2 0))), Value.int .u8 (u8.wrap (([x.2 0, x.2 1, x.2 2, x.2 3, x.2 4, x.2 5, x.2 6, x.2 7].getD 1 0).fdiv (df 2 24))), Value.int .u8 (u8.wrap (([x.2 0, x.2 1, x.2 2, x.2 3, x.2 4, x.2 5, x.2 6, x.2 7].getD 1 0).fdiv (df 2 16))), Value.int .u8 (u8.wrap (([x.2 0, x.2 1, x.2 2, x.2 3, x.2 4, x.2 5, x.2 6, x.2 7].getD 1 0).fdiv (df 2 8))), Value.int .u8 (u8.wrap (([x.2 0, x.2 1, x.2 2, x.2 3, x.2 4, x.2 5, x.2 6, x.2 7].getD 1 0).fdiv (df 2 0))), Value.int .u8 (u8.wrap (([x.2 0, x.2 1, x.2 2, x.2 3, x.2 4, x.2 5, x.2 6, x.2 7].getD 2 0).fdiv (df 2 24))), Value.int .u8 (u8.wrap (([x.2 0, x.2 1, x.2 2, x.2 3, x.2 4, x.2 5, x.2 6, x.2 7].getD 2 0).fdiv (df 2 16))), Value.int .u8 (u8.wrap (([x.2 0, x.2 1, x.2 2, x.2 3, x.2 4, x.2 5, x.2 6, x.2 7].getD 2 0).fdiv (df 2 8))), Value.int .u8 (u8.wrap (([x.2 0, x.2 1, x.2 2, x.2 3, x.2 4, x.2 5, x.2 6, x.2 7].getD 2 0).fdiv (df 2 0))), Value.int .u8 (u8.wrap (([x.2 0, x.2 1, x.2 2, x.2 3, x.2 4, x.2 5, x.2 6, x.2 7].getD 3 0).fdiv (df 2 24))), Value.int .u8 (u8.wrap (([x.2 0, x.2 1, x.2 2, x.2 3, x.2 4, x.2 5, x.2 6, x.2 7].getD 3 0).fdiv (df 2 16))), Value.int .u8 (u8.wrap (([x.2 0, x.2 1, x.2 2, x.2 3, x.2 4, x.2 5, x.2 6, x.2 7].getD 3 0).fdiv (df 2 8))), Value.int .u8 (u8.wrap (([x.2 0, x.2 1, x.2 2, x.2 3, x.2 4, x.2 5, x.2 6, x.2 7].getD 3 0).fdiv (df 2 0))), Value.int .u8 (u8.wrap (([x.2 0, x.2 1, x.2 2, x.2 3, x.2 4, x.2 5, x.2 6, x.2 7].getD 4 0).fdiv (df 2 24))), Value.int .u8 (u8.wrap (([x.2 0, x.2 1, x.2 2, x.2 3, x.2 4, x.2 5, x.2 6, x.2 7].getD 4 0).fdiv (df 2 16))), Value.int .u8 (u8.wrap (([x.2 0, x.2 1, x.2 2, x.2 3, x.2 4, x.2 5, x.2 6, x.2 7].getD 4 0).fdiv (df 2 8))), Value.int .u8 (u8.wrap (([x.2 0, x.2 1, x.2 2, x.2 3, x.2 4, x.2 5, x.2 6, x.2 7].getD 4 0).fdiv (df 2 0))), Value.int .u8 (u8.wrap (([x.2 0, x.2 1, x.2 2, x.2 3, x.2 4, x.2 5, x.2 6, x.2 7].getD 5 0).fdiv (df 2 24))), Value.int .u8 (u8.wrap (([x.2 0, x.2 1, x.2 2, x.2 3, x.2 4, x.2 5, x.2 6, x.2 7].getD 5 0).fdiv (df 2 16))), Value.int .u8 (u8.wrap (([x.2 0, x.2 1, x.2 2, x.2 3, x.2 4, x.2 5, x.2 6, x.2 7].getD 5 0).fdiv (df 2 8))), Value.int .u8 (u8.wrap (([x.2 0, x.2 1, x.2 2, x.2 3, x.2 4, x.2 5, x.2 6, x.2 7].getD 5 0).fdiv (df 2 0))), Value.int .u8 (u8.wrap (([x.2 0, x.2 1, x.2 2, x.2 3, x.2 4, x.2 5, x.2 6, x.2 7].getD 6 0).fdiv (df 2 24))), Value.int .u8 (u8.wrap (([x.2 0, x.2 1, x.2 2, x.2 3, x.2 4, x.2 5, x.2 6, x.2 7].getD 6 0).fdiv (df 2 16))), Value.int .u8 (u8.wrap (([x.2 0, x.2 1, x.2 2, x.2 3, x.2 4, x.2 5, x.2 6, x.2 7].getD 6 0).fdiv (df 2 8))), Value.int .u8 (u8.wrap (([x.2 0, x.2 1, x.2 2, x.2 3, x.2 4, x.2 5, x.2 6, x.2 7].getD 6 0).fdiv (df 2 0))), Value.int .u8 (u8.wrap (([x.2 0, x.2 1, x.2 2, x.2 3, x.2 4, x.2 5, x.2 6, x.2 7].getD 7 0).fdiv (df 2 24))), Value.int .u8 (u8.wrap (([x.2 0, x.2 1, x.2 2, x.2 3, x.2 4, x.2 5, x.2 6, x.2 7].getD 7 0).fdiv (df 2 16))), Value.int .u8 (u8.wrap (([x.2 0, x.2 1, x.2 2, x.2 3, x.2 4, x.2 5, x.2 6, x.2 7].getD 7 0).fdiv (df 2 8))), Value.int .u8 (u8.wrap (([x.2 0, x.2 1, x.2 2, x.2 3, x.2 4, x.2 5, x.2 6, x.2 7].getD 7 0).fdiv (df 2 0)))]) = Value.agg (Array.mk (List.map (Value.int .u8) out)) ∧ True)) False := by
 simp only [zUn]
 refine ziT (by simpa only [Nat.ble_eq] using hl) ⟨⟨(0, fun i => HI.getD i 0), ⟨Nat.zero_le _, rfl⟩, ⟨rfl, trivial⟩, rfl, (by first | rfl | trivial), (by first | rfl | trivial), (by first | rfl | trivial), trivial⟩, ?_⟩
 rintro ⟨n, h⟩ ⟨hx1, hx2⟩
 have w : i64.wrap (((64 * n : Nat) : Int) + 64) = ((64 * (n + 1) : Nat) : Int) := by
  rw [IntWalk.i64_in _ (by simp only at hx1; omega)]; omega
 refine ae (fun hc => ?_) (fun hc => ?_)
 ·have hc' : 64 * n < (O.pad l).length := by simp only [Bz, Sx.af.n] at hc; omega
  have hc2 : 64 * (n + 1) ≤ (O.pad l).length := by omega
  have e1 : List.take ((i64.wrap (((64 * n : Nat) : Int) + 64)).toNat - (((64 * n : Nat) : Int)).toNat) (List.drop (((64 * n : Nat) : Int)).toNat (O.pad l)) = ((O.pad l).drop (64 * n)).take 64 := by
   rw [w]; simp only [ztN]; congr 1; omega
  refine ziT ?_ (ziT ?_ ⟨(n + 1, fun i => O.mix (((O.pad l).drop (64 * n)).take 64) [h 0, h 1, h 2, h 3, h 4, h 5, h 6, h 7] i), ⟨hc2, ?_⟩, ?_, ⟨?_, trivial⟩, ?_, (by first | rfl | trivial), (by first | rfl | trivial), (by first | rfl | trivial), trivial⟩)
  ·simp only at hx1 ⊢
   rw [w]
   simp only [Bz, Sx.af.n]
   omega
  ·simp only at hx1 ⊢
   rw [e1]
   simp only [Nat.beq_eq, List.length_take, List.length_drop]
   omega
  ·simp only at hx2 ⊢
   rw [stI, ← hx2]
   rfl
  ·simp only; omega
  ·simp only; rw [w]
  ·simp only at hx2 ⊢
   rw [e1]
   rfl
 ·have hc' : ¬ 64 * n < (O.pad l).length := by simp only [Bz, Sx.af.n] at hc; omega
  have hn : n = (O.pad l).length / 64 := by simp only at hx1; omega
  subst hn
  simp only at hx2
  refine ⟨?_, trivial⟩
  rw [ho, ← hx2, bob]
  rfl
theorem bep (O : OS) (l out : List Int) (hl : l.length ≤ 1099511627776) (hp : (O.pad l).length % 64 = 0) (hq : (O.pad l).length ≤ 2199023255552) (ho : out = beg (stI O (O.pad l) ((O.pad l).length / 64))) : wpc Tryz.prog (bnn O) Tryz.f121.ntmps (anS O (O.pad l) 141 5) (wu Tryz.f121) 0 64 (ae5 [.ro .u8] [.ints l] 0) (afm [.ro .u8] [.ints l] 0) (aph Tryz.prog Tryz.f121.results.toList [.v (cellsOf .u8 out)]) :=
 Eq.mpr (by kernel_rfl) (bf0 O l out hl hp hq ho)
theorem a1m (n : Int) : (ao6 n).length = 8 := by kernel_rfl
theorem a2r (l : List Int) : (ake l).length = l.length + 9 + adg l.length := by simp [ake, a1m]; omega
theorem bic (l : List Int) : (ake l).length % 64 = 0 := by rw [a2r]; unfold adg; omega
theorem bh3 (l : List Int) (h : l.length ≤ 1099511627776) : (ake l).length ≤ 2199023255552 := by
 have : adg l.length < 64 := Nat.mod_lt _ (by decide)
 rw [a2r]; omega
theorem as4 (h : List Int) : (beg h).length = 32 := by kernel_rfl
def os0 : OS := ⟨om.mix, ake, ao6, fun _ _ => 0, fun _ _ _ => 0⟩
def an7 (l : List Int) : List Int := beg (stI os0 (ake l) ((ake l).length / 64))
theorem avi (l : List Int) : jo (fun i => (an7 l).getD i 0) 32 = an7 l := agj (as4 _)
def acg (O : OS) (s : List Int) (ps : List (List Int)) : List Int := O.be8 (s.length : Int) ++ s ++ ps.flatMap fun p => O.be8 (p.length : Int) ++ p
def os : OS := ⟨om.mix, ake, ao6, fun l i => (an7 l).getD i 0, fun s ps i => (an7 (acg os0 (vg s) ps)).getD i 0⟩
theorem a8r (p : List Int) : ∀ n, stI os p n = stI os0 p n
 | 0 => by rw [stI, stI]
 | n + 1 => by rw [stI, stI, a8r p n, show os.mix = os0.mix by kernel_rfl]
theorem a5o (I : Sx.Interp) (O : OS) (hO : O = os) : ag I Tryz.prog 125 (l7 [.ro .u8] (ai4 O)) := by
 refine aeg (ahn I) (by kernel_rfl) (fun xs => match xs with | [.ints l] => bpx l 5 | _ => []) Tryz.func125 (by kernel_rfl) (by kernel_rfl) rfl Tryz.ntmps125 (by decide) ?_ ?_
 ·intro xs p rs h; unfold ai4 at h; split at h <;> first | (simp only [zsI, zpI] at h; rw [← h.2]; simp) | cases h
 ·intro xs rs hl h
  unfold ai4 at h
  split at h
  ·simp only [zsI, zpI] at h
   obtain ⟨hc, rfl⟩ := h
   subst hO
   exact wpc_padded _ _ (zbL hc) (by kernel_rfl)
  ·cases h
theorem bdc (I : Sx.Interp) : ag I Tryz.prog 79 (l7 [.ro .u8] ama) := by
 refine aan (ahn I) (by kernel_rfl) [] Tryz.func79 (by kernel_rfl) (by kernel_rfl) rfl Tryz.ntmps79 (by decide) ?_ ?_
 ·intro xs p rs h; unfold ama at h; split at h <;> first | (simp only [zsI, zpI] at h; rw [← h.2]; simp) | cases h
 ·intro xs rs hl h
  unfold ama at h
  split at h
  ·simp only [zsI, zpI] at h
   obtain ⟨hc, rfl⟩ := h
   exact Eq.mpr (by kernel_rfl) (bex _ _ (zbL hc) rfl)
  ·cases h
theorem a1y (I : Sx.Interp) (O : OS) (hO : O = os) : ag I Tryz.prog 120 (l7 [.v] (apc O)) := by
 refine aan (ahn I) (by kernel_rfl) [Ann.walk 9] Tryz.func120 (by kernel_rfl) (by kernel_rfl) rfl Tryz.ntmps120 (by decide) ?_ ?_
 ·intro xs p rs h; unfold apc at h; split at h <;> first | (simp only [zsI, zpI] at h; rw [← h.2]; simp) | cases h
 ·intro xs rs hl h
  unfold apc at h
  split at h
  ·simp only [zsI, zpI] at h
   obtain ⟨hc, rfl⟩ := h
   subst hO
   exact wpc_Long _ _ (by kernel_rfl)
  ·cases h
theorem bjn (I : Sx.Interp) (O : OS) (hO : O = os) : ∀ f s, bnn O f = some s → ag I Tryz.prog f s := by
 intro f s h
 unfold bnn at h
 split at h
 ·cases h; exact a5o I O hO
 ·cases h; exact a7w I oh rfl
 ·cases h; subst hO; rw [show (OM.mk os.mix) = om by kernel_rfl]; exact bbe I oh rfl
 ·cases h
def HV (h : Nat → Int) : Value := cellsOf .u8 (jo h 32)
def aq9 (O : OS) (xs : List Arg) : Option (Bool × List Ret) := match xs with
 | [.ints l] => some (Nat.ble l.length 1099511627776, [.v (HV (O.sum l))])
 | _ => none
theorem a3o (I : Sx.Interp) (O : OS) (hO : O = os) : ag I Tryz.prog 121 (l7 [.ro .u8] (aq9 O)) := by
 refine aeg (bjn I O hO) (by kernel_rfl) (fun xs => match xs with | [.ints l] => anS O (O.pad l) 141 5 | _ => []) Tryz.func121 (by kernel_rfl) (by kernel_rfl) rfl Tryz.ntmps121 (by decide) ?_ ?_
 ·intro xs p rs h; unfold aq9 at h; split at h <;> first | (simp only [zsI, zpI] at h; rw [← h.2]; simp) | cases h
 ·intro xs rs hl h
  unfold aq9 at h
  split at h
  ·rename_i l
   simp only [zsI, zpI] at h
   obtain ⟨hc, rfl⟩ := h
   have hc := zbL hc
   have := bep O l (an7 l) hc (by subst hO; rw [show os.pad = ake by kernel_rfl]; exact bic l) (by subst hO; rw [show os.pad = ake by kernel_rfl]; exact bh3 l hc) (by subst hO; rw [a8r, show os.pad = ake by kernel_rfl]; unfold an7; rfl)
   have e : HV (O.sum l) = cellsOf .u8 (an7 l) := by subst hO; unfold HV; rw [show os.sum l = fun i => (an7 l).getD i 0 by kernel_rfl, avi]
   rw [e]
   exact this
  ·cases h
end Go.Proofs.YtgekiddgdjeaiaaGreat
