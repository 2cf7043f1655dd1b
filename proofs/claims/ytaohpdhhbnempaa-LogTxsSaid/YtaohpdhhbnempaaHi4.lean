/- SHA-256 of bytes by the symbolic machine: the padding, eight bytes of a number, a copy, the sum of the document's (VCs printed by VcTool, proofs by hand). -/
import Derived.Test.YtaohpdhhbnempaaHi3
import Derived.IntWalk
import Derived.Test.YtaohpdhhbnempaaVn
namespace Go.Proofs.Ytaohpdhhbnempaa
open Go.RowKit Go.Lib Sx
open IntKind (i64 u64 u8 i32 u32)
set_option linter.unusedVariables false
set_option linter.unusedSimpArgs false
set_option maxRecDepth 1000000
set_option maxHeartbeats 4000000
def zerI (n : Nat) : Nat := (119 - n % 64) % 64
def beZ (n : Int) (k : Nat) : Int := u8.wrap (n.fdiv (2 ^ k))
def be8Z (n : Int) : List Int := [beZ n 56, beZ n 48, beZ n 40, beZ n 32, beZ n 24, beZ n 16, beZ n 8, beZ n 0]
def padI (l : List Int) : List Int := l ++ 128 :: List.replicate (zerI l.length) 0 ++ be8Z (8 * (l.length : Int))
def anPad (l : List Int) (e : TypeId) : List Ann := [
 ⟨Nat, [0], [(3, e, .ints .u8 [])], fun B _ => [(3, .row B)], fun B j => [(B, .own e (.ints .u8 (l ++ 128 :: List.replicate j 0)))], fun j => j ≤ zerI l.length, fun j => zerI l.length - j, 0⟩,
 Ann.walk 9]
structure OS where
 mix : List Int → List Int → Nat → Int
 pad : List Int → List Int
 be8 : Int → List Int
 sum : List Int → Nat → Int
 tag : ByteArray → List (List Int) → Nat → Int
def g_padded (O : OS) (xs : List Arg) : Option (Bool × List Ret) := match xs with
 | [.ints l] => some (Nat.ble l.length 1099511627776, [.ints 5 .u8 (O.pad l)])
 | _ => none
def g_clone (xs : List Arg) : Option (Bool × List Ret) := match xs with
 | [.ints l] => some (Nat.ble l.length 1099511627776, [.ints 5 .u8 l])
 | _ => none
def g_long (O : OS) (xs : List Arg) : Option (Bool × List Ret) := match xs with
 | [.ints l, .v (.int .i64 n)] => some (Nat.ble l.length 2199023255552, [.ints 5 .u8 (l ++ O.be8 n)])
 | _ => none
def g_Long (O : OS) (xs : List Arg) : Option (Bool × List Ret) := match xs with
 | [.v (.int .u64 n)] => some (true, [.ints 5 .u8 (O.be8 n)])
 | _ => none
def stI (O : OS) (p : List Int) : Nat → List Int
 | 0 => HI
 | n + 1 => tabI (O.mix ((p.drop (64 * n)).take 64) (stI O p n)) 8
def outI (h : List Int) : List Int := tabI (fun i => u8.wrap ((h.getD (i / 4) 0).fdiv (2 ^ (24 - 8 * (i % 4))))) 32
abbrev w8 (x : Nat → Int) : List Int := [x 0, x 1, x 2, x 3, x 4, x 5, x 6, x 7]
def anS (O : OS) (p : List Int) (e4 e1 : TypeId) : List Ann := [
 ⟨Nat × (Nat → Int), [0, 2], [(4, e4, .ints .u32 []), (3, e1, .ints .u8 [])], fun B x => [(4, .row B), (3, .row (B+1)), (5, .v (.int .i64 ((64 * x.1 : Nat) : Int)))], fun B x => [(B, .own e4 (.ints .u32 (w8 x.2))), (B+1, .ro (.ints .u8 p))], fun x => 64 * x.1 ≤ p.length ∧ w8 x.2 = stI O p x.1, fun x => p.length - x.1, 0⟩,
 Ann.walk 33]
theorem vc_clone (l out : List Int) (hl : l.length ≤ 1099511627776) (ho : out = l) :
 If (l.length.beq 0) (EqI out [] ∧ True) True ∧ If ((nMul (nAdd 0 l.length) 1).ble 140737488355328 && (nAdd 0 l.length).ble 9223372036854775807) (EqI (app [] l) out ∧ True) False := by
 simp only [zUn]
 refine ⟨Sx.if_both (fun h => ⟨?_, trivial⟩) (fun _ => trivial), ziT (by simp only [Sx.app, Sx.nAdd, Sx.nMul, zaT, Nat.ble_eq, Nat.beq_eq, zlA, List.length_cons, List.length_nil, List.length_replicate]; omega) ⟨by simp [ho], trivial⟩⟩
 rw [ho]; exact List.eq_nil_of_length_eq_zero (zbE h)
theorem vc_long (l out : List Int) (n : Int) (hl : l.length ≤ 2199023255552) (ho : out = l ++ be8Z n) :
 let T1 := app (app (app (app l [u8.wrap (n.fdiv (iPow 2 56))]) [u8.wrap (n.fdiv (iPow 2 48))]) [u8.wrap (n.fdiv (iPow 2 40))]) [u8.wrap (n.fdiv (iPow 2 32))];
  let T2 := app (app T1 [u8.wrap (n.fdiv (iPow 2 24))]) [u8.wrap (n.fdiv (iPow 2 16))]; let T3 := app (app l [u8.wrap (n.fdiv (iPow 2 56))]) [u8.wrap (n.fdiv (iPow 2 48))];
  let T4 := nAdd (app T3 [u8.wrap (n.fdiv (iPow 2 40))]).length [u8.wrap (n.fdiv (iPow 2 32))].length; let T5 := nAdd (app T1 [u8.wrap (n.fdiv (iPow 2 24))]).length [u8.wrap (n.fdiv (iPow 2 16))].length;
  let T6 := nAdd (app l [u8.wrap (n.fdiv (iPow 2 56))]).length [u8.wrap (n.fdiv (iPow 2 48))].length; let T7 := nAdd (app T2 [u8.wrap (n.fdiv (iPow 2 8))]).length [u8.wrap (n.fdiv (iPow 2 0))].length;
  let T8 := nAdd T3.length [u8.wrap (n.fdiv (iPow 2 40))].length; let T9 := nAdd T1.length [u8.wrap (n.fdiv (iPow 2 24))].length; let T10 := nAdd l.length [u8.wrap (n.fdiv (iPow 2 56))].length;
  let T11 := nAdd T2.length [u8.wrap (n.fdiv (iPow 2 8))].length; If ((nMul T10 1).ble 140737488355328 && T10.ble 9223372036854775807) (If ((nMul T6 1).ble 140737488355328 &&
  T6.ble 9223372036854775807) (If ((nMul T8 1).ble 140737488355328 && T8.ble 9223372036854775807) (If ((nMul T4 1).ble 140737488355328 && T4.ble 9223372036854775807) (If ((nMul T9
  1).ble 140737488355328 && T9.ble 9223372036854775807) (If ((nMul T5 1).ble 140737488355328 && T5.ble 9223372036854775807) (If ((nMul T11 1).ble 140737488355328 && T11.ble
  9223372036854775807) (If ((nMul T7 1).ble 140737488355328 && T7.ble 9223372036854775807) (EqI (app (app T2 [u8.wrap (n.fdiv (iPow 2 8))]) [u8.wrap (n.fdiv (iPow 2
  0))]) out ∧ True) False) False) False) False) False) False) False) False := by
 conv => zeta
 simp only [zUn]
 iterate 8 refine ziT (by simp only [Sx.app, Sx.nAdd, Sx.nMul, zaT, Nat.ble_eq, Nat.beq_eq, zlA, List.length_cons, List.length_nil, List.length_replicate]; omega) ?_
 refine ⟨?_, trivial⟩
 rw [ho]
 simp [be8Z, beZ]
theorem wpc_long (l out : List Int) (n : Int) (hl : l.length ≤ 2199023255552) (ho : out = l ++ be8Z n) : wpc Try.prog spH0 Try.f73.ntmps [Ann.walk 9] (bodyOf Try.f73) 0 64 (envA [.own 5 .u8, .v] [.ints l, .v (.int .i64 n)] 0) (memA [.own 5 .u8, .v] [.ints l, .v (.int .i64 n)] 0) (retG Try.prog Try.f73.results.toList [.ints 5 .u8 out]) :=
 Eq.mpr (by kernel_rfl) (vc_long l out n hl ho)
theorem out_eq (a b c d e f g h : Int) : outI [a, b, c, d, e, f, g, h] = [u8.wrap (a.fdiv (2 ^ 24)), u8.wrap (a.fdiv (2 ^ 16)), u8.wrap (a.fdiv (2 ^ 8)), u8.wrap (a.fdiv (2 ^ 0)),
 u8.wrap (b.fdiv (2 ^ 24)), u8.wrap (b.fdiv (2 ^ 16)), u8.wrap (b.fdiv (2 ^ 8)), u8.wrap (b.fdiv (2 ^ 0)),
 u8.wrap (c.fdiv (2 ^ 24)), u8.wrap (c.fdiv (2 ^ 16)), u8.wrap (c.fdiv (2 ^ 8)), u8.wrap (c.fdiv (2 ^ 0)),
 u8.wrap (d.fdiv (2 ^ 24)), u8.wrap (d.fdiv (2 ^ 16)), u8.wrap (d.fdiv (2 ^ 8)), u8.wrap (d.fdiv (2 ^ 0)),
 u8.wrap (e.fdiv (2 ^ 24)), u8.wrap (e.fdiv (2 ^ 16)), u8.wrap (e.fdiv (2 ^ 8)), u8.wrap (e.fdiv (2 ^ 0)),
 u8.wrap (f.fdiv (2 ^ 24)), u8.wrap (f.fdiv (2 ^ 16)), u8.wrap (f.fdiv (2 ^ 8)), u8.wrap (f.fdiv (2 ^ 0)),
 u8.wrap (g.fdiv (2 ^ 24)), u8.wrap (g.fdiv (2 ^ 16)), u8.wrap (g.fdiv (2 ^ 8)), u8.wrap (g.fdiv (2 ^ 0)),
 u8.wrap (h.fdiv (2 ^ 24)), u8.wrap (h.fdiv (2 ^ 16)), u8.wrap (h.fdiv (2 ^ 8)), u8.wrap (h.fdiv (2 ^ 0))] := by kernel_rfl
theorem be8_len (n : Int) : (be8Z n).length = 8 := by kernel_rfl
theorem pad_len (l : List Int) : (padI l).length = l.length + 9 + zerI l.length := by simp [padI, be8_len]; omega
theorem pad_mod (l : List Int) : (padI l).length % 64 = 0 := by rw [pad_len]; unfold zerI; omega
theorem out_len (h : List Int) : (outI h).length = 32 := by kernel_rfl
def os0 : OS := ⟨om.mix, padI, be8Z, fun _ _ => 0, fun _ _ _ => 0⟩
def sumI (l : List Int) : List Int := outI (stI os0 (padI l) ((padI l).length / 64))
theorem sum_tab (l : List Int) : tabI (fun i => (sumI l).getD i 0) 32 = sumI l := tab_self (out_len _)
def tagB (O : OS) (s : List Int) (ps : List (List Int)) : List Int := O.be8 (s.length : Int) ++ s ++ ps.flatMap fun p => O.be8 (p.length : Int) ++ p
def os : OS := ⟨om.mix, padI, be8Z, fun l i => (sumI l).getD i 0, fun s ps i => (sumI (tagB os0 (strI s) ps)).getD i 0⟩
theorem stI_os (p : List Int) : ∀ n, stI os p n = stI os0 p n
 | 0 => by rw [stI, stI]
 | n + 1 => by rw [stI, stI, stI_os p n, show os.mix = os0.mix by kernel_rfl]
theorem ok_clone (I : Sx.Interp) : Sx.SpecOK I Try.prog 65 (gspec [.ro .u8] g_clone) := by
 refine spec_gen (spH0_ok I) (by kernel_rfl) [] Try.func65 (by kernel_rfl) (by kernel_rfl) rfl Try.ntmps65 (by decide) ?_ ?_
 ·intro xs p rs h; unfold g_clone at h; split at h <;> first | (simp only [zsI, zpI] at h; rw [← h.2]; simp) | cases h
 ·intro xs rs hl h
  unfold g_clone at h
  split at h
  ·simp only [zsI, zpI] at h
   obtain ⟨hc, rfl⟩ := h
   exact Eq.mpr (by kernel_rfl) (vc_clone _ _ (zbL hc) rfl)
  ·cases h
theorem ok_long (I : Sx.Interp) (O : OS) (hO : O = os) : Sx.SpecOK I Try.prog 73 (gspec [.own 5 .u8, .v] (g_long O)) := by
 refine spec_gen (spH0_ok I) (by kernel_rfl) [Ann.walk 9] Try.func73 (by kernel_rfl) (by kernel_rfl) rfl Try.ntmps73 (by decide) ?_ ?_
 ·intro xs p rs h; unfold g_long at h; split at h <;> first | (simp only [zsI, zpI] at h; rw [← h.2]; simp) | cases h
 ·intro xs rs hl h
  unfold g_long at h
  split at h
  ·simp only [zsI, zpI] at h
   obtain ⟨hc, rfl⟩ := h
   subst hO
   exact wpc_long _ _ _ (zbL hc) (by kernel_rfl)
  ·cases h
def HV (h : Nat → Int) : Value := cellsOf .u8 (tabI h 32)
def g_sum (O : OS) (xs : List Arg) : Option (Bool × List Ret) := match xs with
 | [.ints l] => some (Nat.ble l.length 1099511627776, [.v (HV (O.sum l))])
 | _ => none