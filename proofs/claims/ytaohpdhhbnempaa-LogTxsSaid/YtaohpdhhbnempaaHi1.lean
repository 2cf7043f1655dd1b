/- SHA-256 by the symbolic machine: the functions, and what the small ones and the schedule reckon. -/
import Derived.Test.YtaohpdhhbnempaaLeaf
import Derived.Test.YtaohpdhhbnempaaSy
namespace Go.Proofs.Ytaohpdhhbnempaa
open Go.RowKit Go.Lib Sx
set_option linter.unusedVariables false
set_option linter.unusedSimpArgs false
set_option maxRecDepth 1000000
def orI (a b : Int) : Int := IntKind.u32.wrap ↑(BitVec.ofInt 32 a ||| BitVec.ofInt 32 b).toNat
def xorI (a b : Int) : Int := IntKind.u32.wrap ↑(BitVec.ofInt 32 a ^^^ BitVec.ofInt 32 b).toNat
def andI (a b : Int) : Int := IntKind.u32.wrap ↑(BitVec.ofInt 32 a &&& BitVec.ofInt 32 b).toNat
def addI (a b : Int) : Int := IntKind.u32.wrap (a + b)
def shrI (n : Nat) (x : Int) : Int := x.fdiv (2 ^ n)
def shlI (n : Nat) (x : Int) : Int := IntKind.u32.wrap (x * 2 ^ n)
def notI (x : Int) : Int := xorI 4294967295 x
def rI (n : Nat) (x : Int) : Int := orI (shlI (32 - n) x) (shrI n x)
def binI (a b c d : Int) : Int := orI (orI (orI (shlI 24 (IntKind.u32.wrap a)) (shlI 16 (IntKind.u32.wrap b))) (shlI 8 (IntKind.u32.wrap c))) (IntKind.u32.wrap d)
structure OH where
 sched : List Int → Nat → Int
 rot : Nat → Int → Int
 bin : Int → Int → Int → Int → Int
def KI : List Int := [0x428a2f98, 0x71374491, 0xb5c0fbcf, 0xe9b5dba5, 0x3956c25b, 0x59f111f1, 0x923f82a4, 0xab1c5ed5,
    0xd807aa98, 0x12835b01, 0x243185be, 0x550c7dc3, 0x72be5d74, 0x80deb1fe, 0x9bdc06a7, 0xc19bf174,
    0xe49b69c1, 0xefbe4786, 0x0fc19dc6, 0x240ca1cc, 0x2de92c6f, 0x4a7484aa, 0x5cb0a9dc, 0x76f988da,
    0x983e5152, 0xa831c66d, 0xb00327c8, 0xbf597fc7, 0xc6e00bf3, 0xd5a79147, 0x06ca6351, 0x14292967,
    0x27b70a85, 0x2e1b2138, 0x4d2c6dfc, 0x53380d13, 0x650a7354, 0x766a0abb, 0x81c2c92e, 0x92722c85,
    0xa2bfe8a1, 0xa81a664b, 0xc24b8b70, 0xc76c51a3, 0xd192e819, 0xd6990624, 0xf40e3585, 0x106aa070,
    0x19a4c116, 0x1e376c08, 0x2748774c, 0x34b0bcb5, 0x391c0cb3, 0x4ed8aa4a, 0x5b9cca4f, 0x682e6ff3,
    0x748f82ee, 0x78a5636f, 0x84c87814, 0x8cc70208, 0x90befffa, 0xa4506ceb, 0xbef9a3f7, 0xc67178f2]
def HI : List Int := [0x6a09e667, 0xbb67ae85, 0x3c6ef372, 0xa54ff53a, 0x510e527f, 0x9b05688c, 0x1f83d9ab, 0x5be0cd19]
def cellsOf (k : IntKind) (l : List Int) : Value := .agg (l.map (Value.int k)).toArray
def tabI (f : Nat → Int) : Nat → List Int
 | 0 => []
 | n + 1 => tabI f n ++ [f n]
theorem tab_take (l : List Int) : ∀ n, n ≤ l.length → tabI (fun i => l.getD i 0) n = l.take n
 | 0, _ => by simp [tabI]
 | n + 1, h => by
  have hn : n < l.length := h
  rw [tabI, tab_take l n (by omega), List.take_add_one, List.getD_eq_getElem?_getD, List.getElem?_eq_getElem hn]
  rfl
theorem tab_self {l : List Int} {n : Nat} (h : l.length = n) : tabI (fun i => l.getD i 0) n = l := by
 rw [tab_take l n (by omega), List.take_of_length_le (by omega)]
theorem list64 {l : List Int} (h : Nat.beq l.length 64 = true) : l = [l.getD 0 0, l.getD 1 0, l.getD 2 0, l.getD 3 0, l.getD 4 0, l.getD 5 0, l.getD 6 0, l.getD 7 0, l.getD 8 0, l.getD 9 0, l.getD 10 0, l.getD 11 0, l.getD 12 0, l.getD 13 0, l.getD 14 0, l.getD 15 0, l.getD 16 0, l.getD 17 0, l.getD 18 0, l.getD 19 0, l.getD 20 0, l.getD 21 0, l.getD 22 0, l.getD 23 0, l.getD 24 0, l.getD 25 0, l.getD 26 0, l.getD 27 0, l.getD 28 0, l.getD 29 0, l.getD 30 0, l.getD 31 0, l.getD 32 0, l.getD 33 0, l.getD 34 0, l.getD 35 0, l.getD 36 0, l.getD 37 0, l.getD 38 0, l.getD 39 0, l.getD 40 0, l.getD 41 0, l.getD 42 0, l.getD 43 0, l.getD 44 0, l.getD 45 0, l.getD 46 0, l.getD 47 0, l.getD 48 0, l.getD 49 0, l.getD 50 0, l.getD 51 0, l.getD 52 0, l.getD 53 0, l.getD 54 0, l.getD 55 0, l.getD 56 0, l.getD 57 0, l.getD 58 0, l.getD 59 0, l.getD 60 0, l.getD 61 0, l.getD 62 0, l.getD 63 0] :=
 (tab_self (zbE h)).symm.trans (by kernel_rfl)
def nxtI (O : OH) (w : List Int) : Int := addI (addI (addI (w.getD 15 0) (xorI (xorI (O.rot 7 (w.getD 14 0)) (O.rot 18 (w.getD 14 0))) (shrI 3 (w.getD 14 0)))) (w.getD 6 0)) (xorI (xorI (O.rot 17 (w.getD 1 0)) (O.rot 19 (w.getD 1 0))) (shrI 10 (w.getD 1 0)))
def extI (O : OH) : Nat → List Int → List Int
 | 0, w => w
 | n + 1, w => extI O n (nxtI O w :: w)
def firstI (O : OH) : Nat → List Int → List Int → List Int
 | n + 1, a :: b :: c :: d :: l, w => firstI O n l (O.bin a b c d :: w)
 | _, _, w => w
def schedI (O : OH) (l : List Int) : List Int := (extI O 48 (firstI O 16 l [])).reverse
def oh0 : OH := ⟨fun _ _ => 0, rI, binI⟩
def oh : OH := ⟨fun l i => (schedI oh0 l).getD i 0, rI, binI⟩
theorem extI_len (O : OH) : ∀ n w, (extI O n w).length = n + w.length
 | 0, w => by simp [extI]
 | n + 1, w => by rw [extI, extI_len O n, List.length_cons]; omega
theorem sched_tab {l : List Int} (h : Nat.beq l.length 64 = true) : tabI (oh.sched l) 64 = schedI oh0 l := by
 have hl : (schedI oh0 l).length = 64 := by
  rw [list64 h]
  unfold schedI
  rw [List.length_reverse, extI_len]
  rfl
 exact tab_self hl
theorem extI_s (s s' : List Int → Nat → Int) (r : Nat → Int → Int) (b : Int → Int → Int → Int → Int) : ∀ n w, extI ⟨s, r, b⟩ n w = extI ⟨s', r, b⟩ n w
 | 0, w => rfl
 | n + 1, w => by
  have e : nxtI ⟨s, r, b⟩ w = nxtI ⟨s', r, b⟩ w := rfl
  rw [extI, extI, e, extI_s s s' r b n]
theorem firstI_s (s s' : List Int → Nat → Int) (r : Nat → Int → Int) (b : Int → Int → Int → Int → Int) : ∀ n l w, firstI ⟨s, r, b⟩ n l w = firstI ⟨s', r, b⟩ n l w
 | 0, l, w => by simp [firstI]
 | n + 1, x :: y :: z :: u :: l, w => by simp only [firstI]; exact firstI_s s s' r b n l _
 | n + 1, [], w => by simp [firstI]
 | n + 1, [x], w => by simp [firstI]
 | n + 1, [x, y], w => by simp [firstI]
 | n + 1, [x, y, z], w => by simp [firstI]
theorem sched_oh (l : List Int) : schedI oh l = schedI oh0 l := by
 unfold schedI oh oh0
 rw [extI_s _ (fun _ _ => 0), firstI_s _ (fun _ _ => 0)]
def rotOk (n : Nat) : Bool := match n with
 | 1 => true
 | 5 => true
 | 6 => true
 | 10 => true
 | 12 => true
 | 16 => true
 | 17 => true
 | 18 => true
 | 21 => true
 | 24 => true
 | _ => false
def g_rot (O : OH) (xs : List Arg) : Option (Bool × List Ret) := match xs with
 | [.v (.int .u32 x), .v (.int .i64 (.negSucc n))] => some (rotOk n, [.v (.int .u32 (O.rot (n + 1) x))])
 | _ => none
def turnOk (n : Nat) : Bool := match n with
 | 0 => false
 | n + 1 => rotOk n
def g_turn (O : OH) (xs : List Arg) : Option (Bool × List Ret) := match xs with
 | [.v (.int .u32 x), .v (.int .i64 (.ofNat n))] => some (turnOk n, [.v (.int .u32 (O.rot n x))])
 | _ => none
def g_bin (O : OH) (xs : List Arg) : Option (Bool × List Ret) := match xs with
 | [.ints (a :: b :: c :: d :: _)] => some (true, [.v (.int .u32 (O.bin a b c d))])
 | _ => none
def g_sched (O : OH) (xs : List Arg) : Option (Bool × List Ret) := match xs with
 | [.ints l] => some (Nat.beq l.length 64, [.v (cellsOf .u32 (tabI (O.sched l) 64))])
 | _ => none
def g_words (O : OH) (xs : List Arg) : Option (Bool × List Ret) := match xs with
 | [.ints l] => some (Nat.beq l.length 64, [.ints 130 .u32 (tabI (O.sched l) 64)])
 | _ => none
def g_val (v : Value) (xs : List Arg) : Option (Bool × List Ret) := match xs with
 | [] => some (true, [.v v])
 | _ => none
def g_ints (e : TypeId) (k : IntKind) (l : List Int) (xs : List Arg) : Option (Bool × List Ret) := match xs with
 | [] => some (true, [.ints e k l])
 | _ => none
def spH0 (f : FuncId) : Option Sx.Spec := none
theorem spH0_ok (I : Sx.Interp) : ∀ f s, spH0 f = some s → Sx.SpecOK I Try.prog f s := fun f s h => by cases h
theorem ok_rot (I : Sx.Interp) (O : OH) (hO : O = oh) : Sx.SpecOK I Try.prog 96 (gspec [.v, .v] (g_rot O)) := by
 refine spec_gen (spH0_ok I) (by kernel_rfl) [] Try.func96 (by kernel_rfl) (by kernel_rfl) rfl Try.ntmps96 (by decide) ?_ ?_
 ·intro xs p rs h; unfold g_rot at h; split at h <;> first | (simp only [zsI, zpI] at h; rw [← h.2]; simp) | cases h
 ·intro xs rs hl h
  unfold g_rot at h
  split at h
  ·simp only [zsI, zpI] at h
   obtain ⟨hc, rfl⟩ := h
   subst hO
   rename_i x n
   unfold rotOk at hc
   split at hc
   ·exact Eq.mpr (by kernel_rfl : _ = ((Value.int .u32 (rI 2 x) = Value.int .u32 (rI 2 x)) ∧ True)) ⟨rfl, trivial⟩
   ·exact Eq.mpr (by kernel_rfl : _ = ((Value.int .u32 (rI 6 x) = Value.int .u32 (rI 6 x)) ∧ True)) ⟨rfl, trivial⟩
   ·exact Eq.mpr (by kernel_rfl : _ = ((Value.int .u32 (rI 7 x) = Value.int .u32 (rI 7 x)) ∧ True)) ⟨rfl, trivial⟩
   ·exact Eq.mpr (by kernel_rfl : _ = ((Value.int .u32 (rI 11 x) = Value.int .u32 (rI 11 x)) ∧ True)) ⟨rfl, trivial⟩
   ·exact Eq.mpr (by kernel_rfl : _ = ((Value.int .u32 (rI 13 x) = Value.int .u32 (rI 13 x)) ∧ True)) ⟨rfl, trivial⟩
   ·exact Eq.mpr (by kernel_rfl : _ = ((Value.int .u32 (rI 17 x) = Value.int .u32 (rI 17 x)) ∧ True)) ⟨rfl, trivial⟩
   ·exact Eq.mpr (by kernel_rfl : _ = ((Value.int .u32 (rI 18 x) = Value.int .u32 (rI 18 x)) ∧ True)) ⟨rfl, trivial⟩
   ·exact Eq.mpr (by kernel_rfl : _ = ((Value.int .u32 (rI 19 x) = Value.int .u32 (rI 19 x)) ∧ True)) ⟨rfl, trivial⟩
   ·exact Eq.mpr (by kernel_rfl : _ = ((Value.int .u32 (rI 22 x) = Value.int .u32 (rI 22 x)) ∧ True)) ⟨rfl, trivial⟩
   ·exact Eq.mpr (by kernel_rfl : _ = ((Value.int .u32 (rI 25 x) = Value.int .u32 (rI 25 x)) ∧ True)) ⟨rfl, trivial⟩
   ·cases hc
  ·cases h
theorem ok_bin (I : Sx.Interp) (O : OH) (hO : O = oh) : Sx.SpecOK I Try.prog 106 (gspec [.ro .u8] (g_bin O)) := by
 refine spec_gen (spH0_ok I) (by kernel_rfl) [] Try.func106 (by kernel_rfl) (by kernel_rfl) rfl Try.ntmps106 (by decide) ?_ ?_
 ·intro xs p rs h; unfold g_bin at h; split at h <;> first | (simp only [zsI, zpI] at h; rw [← h.2]; simp) | cases h
 ·intro xs rs hl h
  unfold g_bin at h
  split at h
  ·simp only [zsI, zpI] at h
   obtain ⟨hc, rfl⟩ := h
   subst hO
   rename_i a b c d t
   exact Eq.mpr (by kernel_rfl : _ = ((Value.int .u32 (binI a b c d) = Value.int .u32 (binI a b c d)) ∧ True)) ⟨rfl, trivial⟩
  ·cases h
def spA (O : OH) (f : FuncId) : Option Sx.Spec := match f with
 | 96 => some (gspec [.v, .v] (g_rot O))
 | 106 => some (gspec [.ro .u8] (g_bin O))
 | _ => none
theorem spA_ok (I : Sx.Interp) (O : OH) (hO : O = oh) : ∀ f s, spA O f = some s → Sx.SpecOK I Try.prog f s := by
 intro f s h
 unfold spA at h
 split at h
 ·cases h; exact ok_rot I O hO
 ·cases h; exact ok_bin I O hO
 ·cases h
theorem wpc_sched (O : OH) (b0 b1 b2 b3 b4 b5 b6 b7 b8 b9 b10 b11 b12 b13 b14 b15 b16 b17 b18 b19 b20 b21 b22 b23 b24 b25 b26 b27 b28 b29 b30 b31 b32 b33 b34 b35 b36 b37 b38 b39 b40 b41 b42 b43 b44 b45 b46 b47 b48 b49 b50 b51 b52 b53 b54 b55 b56 b57 b58 b59 b60 b61 b62 b63 : Int) : wpc Try.prog (spA O) Try.f94.ntmps [Ann.walk 65] (bodyOf Try.f94) 0 64 (envA [.ro .u8] [.ints [b0, b1, b2, b3, b4, b5, b6, b7, b8, b9, b10, b11, b12, b13, b14, b15, b16, b17, b18, b19, b20, b21, b22, b23, b24, b25, b26, b27, b28, b29, b30, b31, b32, b33, b34, b35, b36, b37, b38, b39, b40, b41, b42, b43, b44, b45, b46, b47, b48, b49, b50, b51, b52, b53, b54, b55, b56, b57, b58, b59, b60, b61, b62, b63]] 0) (memA [.ro .u8] [.ints [b0, b1, b2, b3, b4, b5, b6, b7, b8, b9, b10, b11, b12, b13, b14, b15, b16, b17, b18, b19, b20, b21, b22, b23, b24, b25, b26, b27, b28, b29, b30, b31, b32, b33, b34, b35, b36, b37, b38, b39, b40, b41, b42, b43, b44, b45, b46, b47, b48, b49, b50, b51, b52, b53, b54, b55, b56, b57, b58, b59, b60, b61, b62, b63]] 0) (retG Try.prog Try.f94.results.toList [.v (cellsOf .u32 (schedI O [b0, b1, b2, b3, b4, b5, b6, b7, b8, b9, b10, b11, b12, b13, b14, b15, b16, b17, b18, b19, b20, b21, b22, b23, b24, b25, b26, b27, b28, b29, b30, b31, b32, b33, b34, b35, b36, b37, b38, b39, b40, b41, b42, b43, b44, b45, b46, b47, b48, b49, b50, b51, b52, b53, b54, b55, b56, b57, b58, b59, b60, b61, b62, b63]))]) :=
 Eq.mpr (by kernel_rfl : _ = ((cellsOf .u32 (schedI O [b0, b1, b2, b3, b4, b5, b6, b7, b8, b9, b10, b11, b12, b13, b14, b15, b16, b17, b18, b19, b20, b21, b22, b23, b24, b25, b26, b27, b28, b29, b30, b31, b32, b33, b34, b35, b36, b37, b38, b39, b40, b41, b42, b43, b44, b45, b46, b47, b48, b49, b50, b51, b52, b53, b54, b55, b56, b57, b58, b59, b60, b61, b62, b63]) = cellsOf .u32 (schedI O [b0, b1, b2, b3, b4, b5, b6, b7, b8, b9, b10, b11, b12, b13, b14, b15, b16, b17, b18, b19, b20, b21, b22, b23, b24, b25, b26, b27, b28, b29, b30, b31, b32, b33, b34, b35, b36, b37, b38, b39, b40, b41, b42, b43, b44, b45, b46, b47, b48, b49, b50, b51, b52, b53, b54, b55, b56, b57, b58, b59, b60, b61, b62, b63])) ∧ True)) ⟨rfl, trivial⟩
theorem ok_sched (I : Sx.Interp) (O : OH) (hO : O = oh) : Sx.SpecOK I Try.prog 94 (gspec [.ro .u8] (g_sched O)) := by
 refine spec_gen (spA_ok I O hO) (by kernel_rfl) [Ann.walk 65] Try.func94 (by kernel_rfl) (by kernel_rfl) rfl Try.ntmps94 (by decide) ?_ ?_
 ·intro xs p rs h; unfold g_sched at h; split at h <;> first | (simp only [zsI, zpI] at h; rw [← h.2]; simp) | cases h
 ·intro xs rs hl h
  unfold g_sched at h
  split at h
  ·simp only [zsI, zpI] at h
   obtain ⟨hc, rfl⟩ := h
   rename_i l
   have e := list64 hc
   have := wpc_sched O (l.getD 0 0) (l.getD 1 0) (l.getD 2 0) (l.getD 3 0) (l.getD 4 0) (l.getD 5 0) (l.getD 6 0) (l.getD 7 0) (l.getD 8 0) (l.getD 9 0) (l.getD 10 0) (l.getD 11 0) (l.getD 12 0) (l.getD 13 0) (l.getD 14 0) (l.getD 15 0) (l.getD 16 0) (l.getD 17 0) (l.getD 18 0) (l.getD 19 0) (l.getD 20 0) (l.getD 21 0) (l.getD 22 0) (l.getD 23 0) (l.getD 24 0) (l.getD 25 0) (l.getD 26 0) (l.getD 27 0) (l.getD 28 0) (l.getD 29 0) (l.getD 30 0) (l.getD 31 0) (l.getD 32 0) (l.getD 33 0) (l.getD 34 0) (l.getD 35 0) (l.getD 36 0) (l.getD 37 0) (l.getD 38 0) (l.getD 39 0) (l.getD 40 0) (l.getD 41 0) (l.getD 42 0) (l.getD 43 0) (l.getD 44 0) (l.getD 45 0) (l.getD 46 0) (l.getD 47 0) (l.getD 48 0) (l.getD 49 0) (l.getD 50 0) (l.getD 51 0) (l.getD 52 0) (l.getD 53 0) (l.getD 54 0) (l.getD 55 0) (l.getD 56 0) (l.getD 57 0) (l.getD 58 0) (l.getD 59 0) (l.getD 60 0) (l.getD 61 0) (l.getD 62 0) (l.getD 63 0)
   rw [← e] at this
   subst hO
   rw [sched_oh] at this
   rw [sched_tab hc]
   exact this
  ·cases h
theorem ok_table (I : Sx.Interp) (O : OH) (hO : O = oh) : Sx.SpecOK I Try.prog 95 (gspec [] (g_val (cellsOf .u32 KI))) := by
 refine spec_gen (spH0_ok I) (by kernel_rfl) [] Try.func95 (by kernel_rfl) (by kernel_rfl) rfl Try.ntmps95 (by decide) ?_ ?_
 ·intro xs p rs h; unfold g_val at h; split at h <;> first | (simp only [zsI, zpI] at h; rw [← h.2]; simp) | cases h
 ·intro xs rs hl h
  unfold g_val at h
  split at h
  ·simp only [zsI, zpI] at h
   obtain ⟨hc, rfl⟩ := h
   exact Eq.mpr (by kernel_rfl : _ = ((cellsOf .u32 KI) = cellsOf .u32 KI ∧ True)) ⟨rfl, trivial⟩
  ·cases h
theorem ok_first (I : Sx.Interp) (O : OH) (hO : O = oh) : Sx.SpecOK I Try.prog 74 (gspec [] (g_val (cellsOf .u32 HI))) := by
 refine spec_gen (spH0_ok I) (by kernel_rfl) [] Try.func74 (by kernel_rfl) (by kernel_rfl) rfl Try.ntmps74 (by decide) ?_ ?_
 ·intro xs p rs h; unfold g_val at h; split at h <;> first | (simp only [zsI, zpI] at h; rw [← h.2]; simp) | cases h
 ·intro xs rs hl h
  unfold g_val at h
  split at h
  ·simp only [zsI, zpI] at h
   obtain ⟨hc, rfl⟩ := h
   exact Eq.mpr (by kernel_rfl : _ = ((cellsOf .u32 HI) = cellsOf .u32 HI ∧ True)) ⟨rfl, trivial⟩
  ·cases h
end Go.Proofs.Ytaohpdhhbnempaa