/- SHA-256 by the symbolic machine: the functions, and what the small ones and the schedule reckon. -/
import Derived.Test.YtgekiddgdjeaiaaGreatLeaf
import Derived.Test.YtgekiddgdjeaiaaGreatSy
namespace Go.Proofs.YtgekiddgdjeaiaaGreat
open Go.RowKit Go.Lib Sx
set_option linter.unusedVariables false
set_option linter.unusedSimpArgs false
set_option maxRecDepth 1000000
def orI (a b : Int) : Int := IntKind.u32.wrap ↑(BitVec.ofInt 32 a ||| BitVec.ofInt 32 b).toNat
def ach (a b : Int) : Int := IntKind.u32.wrap ↑(BitVec.ofInt 32 a ^^^ BitVec.ofInt 32 b).toNat
def afw (a b : Int) : Int := IntKind.u32.wrap ↑(BitVec.ofInt 32 a &&& BitVec.ofInt 32 b).toNat
def aaj (a b : Int) : Int := IntKind.u32.wrap (a + b)
def akv (n : Nat) (x : Int) : Int := x.fdiv (2 ^ n)
def ajm (n : Nat) (x : Int) : Int := IntKind.u32.wrap (x * 2 ^ n)
def bnk (x : Int) : Int := ach 4294967295 x
def rI (n : Nat) (x : Int) : Int := orI (ajm (32 - n) x) (akv n x)
def bl5 (a b c d : Int) : Int := orI (orI (orI (ajm 24 (IntKind.u32.wrap a)) (ajm 16 (IntKind.u32.wrap b))) (ajm 8 (IntKind.u32.wrap c))) (IntKind.u32.wrap d)
theorem aar (a b : Int) : orI a b = orI b a := by unfold orI; rw [BitVec.or_comm]
structure OH where
 sched : List Int → Nat → Int
 rot : Nat → Int → Int
 bin : Int → Int → Int → Int → Int
def KI : List Int := [0x428a2f98, 0x71374491, 0xb5c0fbcf, 0xe9b5dba5, 0x3956c25b, 0x59f111f1, 0x923f82a4, 0xab1c5ed5,
    0xd807aa98, 0x12835b01, 0x243185be, 0x550c7dc3, 0x72be5d74, 0x80deb1fe, 0x9bdc06a7, 0xc19bf174,
    0xe49b69c1, 0xefbe4786, 0x0fc19dc6, 0x240ca1cc, 0x2de92c6f, 0x4a7484aa, 0x5cb0a9dc, 0x76f988da,
    0x983e5152, 0xa831c66d, 0xb00327c8, 0xbf597fc7, 0xc6e00bf3, 0xd5a79147, 0x06ca6351, 0x14292967,
    0x27b70a85, 0x2e1b2138, 0x4d2c6dfc, 0x53380d13, 0x650a7354, 0x766a0abb, 0x81c2c92e, 0x92722c85,
    0xa2bfe8a1, 0xa81a664b, 0xc24b8b70, 0xc76c51a3, 0xd192e819, 0xd6990624, 0xf40e3585, 0x106aa070,
    0x19a4c116, 0x1e376c08, 0x2748774c, 0x34b0bcb5, 0x391c0cb3, 0x4ed8aa4a, 0x5b9cca4f, 0x682e6ff3,
    0x748f82ee, 0x78a5636f, 0x84c87814, 0x8cc70208, 0x90befffa, 0xa4506ceb, 0xbef9a3f7, 0xc67178f2]
def HI : List Int := [0x6a09e667, 0xbb67ae85, 0x3c6ef372, 0xa54ff53a, 0x510e527f, 0x9b05688c, 0x1f83d9ab, 0x5be0cd19]
def cellsOf (k : IntKind) (l : List Int) : Value := .agg (l.map (Value.int k)).toArray
def jo (f : Nat → Int) : Nat → List Int
 | 0 => []
 | n + 1 => jo f n ++ [f n]
theorem axv (l : List Int) : ∀ n, n ≤ l.length → jo (fun i => l.getD i 0) n = l.take n
 | 0, _ => by simp [jo]
 | n + 1, h => by
  have hn : n < l.length := h
  rw [jo, axv l n (by omega), List.take_add_one, List.getD_eq_getElem?_getD, List.getElem?_eq_getElem hn]
  rfl
theorem agj {l : List Int} {n : Nat} (h : l.length = n) : jo (fun i => l.getD i 0) n = l := by
 rw [axv l n (by omega), List.take_of_length_le (by omega)]
theorem ay7 {l : List Int} (h : Nat.beq l.length 64 = true) : l = [l.getD 0 0, l.getD 1 0, l.getD 2 0, l.getD 3 0, l.getD 4 0, l.getD 5 0, l.getD 6 0, l.getD 7 0, l.getD 8 0, l.getD 9 0, l.getD 10 0, l.getD 11 0, l.getD 12 0, l.getD 13 0, l.getD 14 0, l.getD 15 0, l.getD 16 0, l.getD 17 0, l.getD 18 0, l.getD 19 0, l.getD 20 0, l.getD 21 0, l.getD 22 0, l.getD 23 0, l.getD 24 0, l.getD 25 0, l.getD 26 0, l.getD 27 0, l.getD 28 0, l.getD 29 0, l.getD 30 0, l.getD 31 0, l.getD 32 0, l.getD 33 0, l.getD 34 0, l.getD 35 0, l.getD 36 0, l.getD 37 0, l.getD 38 0, l.getD 39 0, l.getD 40 0, l.getD 41 0, l.getD 42 0, l.getD 43 0, l.getD 44 0, l.getD 45 0, l.getD 46 0, l.getD 47 0, l.getD 48 0, l.getD 49 0, l.getD 50 0, l.getD 51 0, l.getD 52 0, l.getD 53 0, l.getD 54 0, l.getD 55 0, l.getD 56 0, l.getD 57 0, l.getD 58 0, l.getD 59 0, l.getD 60 0, l.getD 61 0, l.getD 62 0, l.getD 63 0] :=
 (agj (zbE h)).symm.trans (by kernel_rfl)
def bmn (O : OH) (w : List Int) : Int := aaj (aaj (aaj (w.getD 15 0) (ach (ach (O.rot 7 (w.getD 14 0)) (O.rot 18 (w.getD 14 0))) (akv 3 (w.getD 14 0)))) (w.getD 6 0)) (ach (ach (O.rot 17 (w.getD 1 0)) (O.rot 19 (w.getD 1 0))) (akv 10 (w.getD 1 0)))
def av4 (O : OH) : Nat → List Int → List Int
 | 0, w => w
 | n + 1, w => av4 O n (bmn O w :: w)
def ad6 (O : OH) : Nat → List Int → List Int → List Int
 | n + 1, a :: b :: c :: d :: l, w => ad6 O n l (O.bin a b c d :: w)
 | _, _, w => w
def acd (O : OH) (l : List Int) : List Int := (av4 O 48 (ad6 O 16 l [])).reverse
def oh0 : OH := ⟨fun _ _ => 0, rI, bl5⟩
def oh : OH := ⟨fun l i => (acd oh0 l).getD i 0, rI, bl5⟩
theorem ax4 (O : OH) : ∀ n w, (av4 O n w).length = n + w.length
 | 0, w => by simp [av4]
 | n + 1, w => by rw [av4, ax4 O n, List.length_cons]; omega
theorem a3y {l : List Int} (h : Nat.beq l.length 64 = true) : jo (oh.sched l) 64 = acd oh0 l := by
 have hl : (acd oh0 l).length = 64 := by
  rw [ay7 h]
  unfold acd
  rw [List.length_reverse, ax4]
  rfl
 exact agj hl
theorem bei (s s' : List Int → Nat → Int) (r : Nat → Int → Int) (b : Int → Int → Int → Int → Int) : ∀ n w, av4 ⟨s, r, b⟩ n w = av4 ⟨s', r, b⟩ n w
 | 0, w => rfl
 | n + 1, w => by
  have e : bmn ⟨s, r, b⟩ w = bmn ⟨s', r, b⟩ w := rfl
  rw [av4, av4, e, bei s s' r b n]
theorem ayb (s s' : List Int → Nat → Int) (r : Nat → Int → Int) (b : Int → Int → Int → Int → Int) : ∀ n l w, ad6 ⟨s, r, b⟩ n l w = ad6 ⟨s', r, b⟩ n l w
 | 0, l, w => by simp [ad6]
 | n + 1, x :: y :: z :: u :: l, w => by simp only [ad6]; exact ayb s s' r b n l _
 | n + 1, [], w => by simp [ad6]
 | n + 1, [x], w => by simp [ad6]
 | n + 1, [x, y], w => by simp [ad6]
 | n + 1, [x, y, z], w => by simp [ad6]
theorem bev (l : List Int) : acd oh l = acd oh0 l := by
 unfold acd oh oh0
 rw [bei _ (fun _ _ => 0), ayb _ (fun _ _ => 0)]
def a98 (n : Nat) : Bool := match n with
 | 1 => true
 | 5 => true
 | 6 => true
 | 10 => true
 | 12 => true
 | 16 => true
 | 17 => true
 | 18 => true
 | 21 => true
 | 24 => true
 | _ => false
def bqz (O : OH) (xs : List Arg) : Option (Bool × List Ret) := match xs with
 | [.v (.int .u32 x), .v (.int .i64 (.negSucc n))] => some (a98 n, [.v (.int .u32 (O.rot (n + 1) x))])
 | _ => none
def bbw (n : Nat) : Bool := match n with
 | 0 => false
 | n + 1 => a98 n
def ap4 (O : OH) (xs : List Arg) : Option (Bool × List Ret) := match xs with
 | [.v (.int .u32 x), .v (.int .i64 (.ofNat n))] => some (bbw n, [.v (.int .u32 (O.rot n x))])
 | _ => none
def bq3 (O : OH) (xs : List Arg) : Option (Bool × List Ret) := match xs with
 | [.ints (a :: b :: c :: d :: _)] => some (true, [.v (.int .u32 (O.bin a b c d))])
 | _ => none
def bqd (O : OH) (xs : List Arg) : Option (Bool × List Ret) := match xs with
 | [.ints l] => some (Nat.beq l.length 64, [.v (cellsOf .u32 (jo (O.sched l) 64))])
 | _ => none
def al2 (O : OH) (xs : List Arg) : Option (Bool × List Ret) := match xs with
 | [.ints l] => some (Nat.beq l.length 64, [.ints 141 .u32 (jo (O.sched l) 64)])
 | _ => none
def bq1 (v : Value) (xs : List Arg) : Option (Bool × List Ret) := match xs with
 | [] => some (true, [.v v])
 | _ => none
def ag7 (e : TypeId) (k : IntKind) (l : List Int) (xs : List Arg) : Option (Bool × List Ret) := match xs with
 | [] => some (true, [.ints e k l])
 | _ => none
def bqp (f : FuncId) : Option Sx.Spec := none
theorem ahn (I : Sx.Interp) : ∀ f s, bqp f = some s → ag I Tryz.prog f s := fun f s h => by cases h