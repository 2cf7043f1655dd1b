/- Contracts of field, point and hash for the symbolic machine (printed by gensg.py). -/
import Derived.Test.YtaohpdhhbnempaaHi5
import Derived.Test.YtaohpdhhbnempaaPoint2
import Derived.Test.YtaohpdhhbnempaaRef05
import Derived.Test.YtaohpdhhbnempaaRefF
import Derived.Test.YtaohpdhhbnempaaRef06
namespace Go.Proofs.Ytaohpdhhbnempaa
open Go.RowKit Go.Lib Ckp Cfd Cpd Sx
set_option linter.unusedVariables false
set_option linter.unusedSimpArgs false
set_option maxRecDepth 1000000
def byteV : Value → Bool
 | .int .u8 x => decide (0 ≤ x) && decide (x < 256)
 | _ => false
def isHa (a : Array Value) : Bool := Nat.beq a.size 32 && a.toList.all byteV
def natV : Value → Nat
 | .int _ x => x.toNat
 | _ => 0
def natsA (a : Array Value) : List Nat := a.toList.map natV
theorem byteV_spec {v : Value} (h : byteV v = true) : ∃ n : Nat, n < 256 ∧ v = .int .u8 (n : Int) ∧ natV v = n := by
 unfold byteV at h
 split at h
 ·rename_i x
  simp only [zaT, decide_eq_true_eq] at h
  exact ⟨x.toNat, by omega, by rw [Int.toNat_of_nonneg h.1], rfl⟩
 ·cases h
theorem isHa_spec {a : Array Value} (h : isHa a = true) : ∃ l : List Nat, l.length = 32 ∧ (∀ i, l.getD i 0 < 256) ∧ a = (l.map fun n : Nat => Value.int .u8 (n : Int)).toArray ∧ natsA a = l := by
 simp only [isHa, zaT] at h
 have hs := zbE h.1
 have key : ∀ vs : List Value, vs.all byteV = true → (∀ n ∈ vs.map natV, n < 256) ∧ vs = (vs.map natV).map fun n : Nat => Value.int .u8 (n : Int) := by
  intro vs
  induction vs with
  | nil => intro _; exact ⟨by simp, rfl⟩
  | cons v vs ih =>
   intro hv
   simp only [List.all_cons, zaT] at hv
   obtain ⟨n, h1, h2, h3⟩ := byteV_spec hv.1
   obtain ⟨i1, i2⟩ := ih hv.2
   refine ⟨?_, ?_⟩
   ·intro m hm
    simp only [List.map_cons, List.mem_cons] at hm
    rcases hm with rfl | hm
    ·rw [h3]; exact h1
    ·exact i1 m hm
   ·simp only [List.map_cons, h3]
    rw [← i2, ← h2]
 obtain ⟨k1, k2⟩ := key a.toList h.2
 refine ⟨natsA a, by simp [natsA, hs], fun i => ?_, ?_, rfl⟩
 ·rw [List.getD_eq_getElem?_getD]
  cases hi : (natsA a)[i]? with
  | none => simp
  | some n => exact k1 n (List.mem_of_getElem? hi)
 ·apply Array.ext'; simpa [natsA] using k2
def pallI (l : List Int) : Int := l.foldl (fun o a => ((pt o.toNat (ptaken a.toNat) : Nat) : Int)) 1
structure OO where
 fright : Int → Bool
 fadd : Int → Int → Int
 fsub : Int → Int → Int
 fmul : Int → Int → Int
 fneg : Int → Int
 pright : Int → Bool
 padd : Int → Int → Int
 pneg : Int → Int
 pbase : Int → Int
 pscale : Int → Int → Int
 pt : Int → Int → Int
 ptaken : Int → Int
 pall : List Int → Int
 isH : Array Value → Bool
 ffrom : Array Value → Int
 be8 : Int → List Int
 sum : List Int → Nat → Int
 tag : ByteArray → List (List Int) → Nat → Int
def oo : OO := ⟨fun a => fright a.toNat, fun a b => ((fadd a.toNat b.toNat : Nat) : Int), fun a b => ((fsub a.toNat b.toNat : Nat) : Int), fun a b => ((fmul a.toNat b.toNat : Nat) : Int), fun a => ((fneg a.toNat : Nat) : Int), fun a => pright a.toNat, fun a b => ((padd a.toNat b.toNat : Nat) : Int), fun a => ((pneg a.toNat : Nat) : Int), fun a => ((pbase a.toNat : Nat) : Int), fun a b => ((pscale a.toNat b.toNat : Nat) : Int), fun a b => ((pt a.toNat b.toNat : Nat) : Int), fun a => ((ptaken a.toNat : Nat) : Int), pallI, isHa, fun a => ((ffrom (natsA a) : Nat) : Int), be8Z, os.sum, os.tag⟩
def g_fRight (O : OO) (l : List Value) : Option (Bool × Value) := match l with
 | [.int .u64 a] => some ((inU a 18446744073709551616), .bool (O.fright a))
 | _ => none
def g_fAdd (O : OO) (l : List Value) : Option (Bool × Value) := match l with
 | [.int .u64 a, .int .u64 b] => some ((inU a 18446744073709551616) && (inU b 18446744073709551616), .int .u64 (O.fadd a b))
 | _ => none
def g_fSub (O : OO) (l : List Value) : Option (Bool × Value) := match l with
 | [.int .u64 a, .int .u64 b] => some ((inU a 18446744073709551616) && (inU b 18446744073709551616), .int .u64 (O.fsub a b))
 | _ => none
def g_fMul (O : OO) (l : List Value) : Option (Bool × Value) := match l with
 | [.int .u64 a, .int .u64 b] => some ((inU a 18446744073709551616) && (inU b 18446744073709551616), .int .u64 (O.fmul a b))
 | _ => none
def g_fNeg (O : OO) (l : List Value) : Option (Bool × Value) := match l with
 | [.int .u64 a] => some ((inU a 18446744073709551616), .int .u64 (O.fneg a))
 | _ => none
def g_rRight5 (O : OO) (l : List Value) : Option (Bool × Value) := match l with
 | [.int .u64 a] => some ((inU a 18446744073709551616), .bool (O.fright a))
 | _ => none
def g_rAdd5 (O : OO) (l : List Value) : Option (Bool × Value) := match l with
 | [.int .u64 a, .int .u64 b] => some ((inU a 18446744073709551616) && (inU b 18446744073709551616), .int .u64 (O.fadd a b))
 | _ => none
def g_rSub5 (O : OO) (l : List Value) : Option (Bool × Value) := match l with
 | [.int .u64 a, .int .u64 b] => some ((inU a 18446744073709551616) && (inU b 18446744073709551616), .int .u64 (O.fsub a b))
 | _ => none
def g_rMul5 (O : OO) (l : List Value) : Option (Bool × Value) := match l with
 | [.int .u64 a, .int .u64 b] => some ((inU a 18446744073709551616) && (inU b 18446744073709551616), .int .u64 (O.fmul a b))
 | _ => none
def g_fFrom (O : OO) (l : List Value) : Option (Bool × Value) := match l with
 | [.agg x] => some ((decide (O.isH x = true)), .int .u64 (O.ffrom x))
 | _ => none
def g_rFrom5 (O : OO) (l : List Value) : Option (Bool × Value) := match l with
 | [.agg x] => some ((decide (O.isH x = true)), .int .u64 (O.ffrom x))
 | _ => none
def g_pRight (O : OO) (l : List Value) : Option (Bool × Value) := match l with
 | [.int .u64 a] => some ((inU a 18446744073709551616), .bool (O.pright a))
 | _ => none
theorem ok_pRight (I : Sx.Interp) (O : OO) (hO : O = oo) : Sx.SpecOK I Try.prog 103 (Sx.vspec (g_pRight O)) := by
 subst hO
 refine Sx.spec_of_calls Try.func103 (by kernel_rfl) (by kernel_rfl) ?_
 intro l v hg w
 unfold g_pRight at hg
 split at hg
 ·rename_i a
  simp only [zsI, zpI, zaT, true_and] at hg
  obtain ⟨hc, rfl⟩ := hg
  have h0 := hc
  obtain ⟨n_a, rfl, l0⟩ := inU_nat h0
  simp only [oo, ztN]
  exact Sx.fr_dn (pright_any n_a l0 w)
 ·cases hg
def g_pAdd (O : OO) (l : List Value) : Option (Bool × Value) := match l with
 | [.int .u64 a, .int .u64 b] => some ((inU a 18446744073709551616) && (inU b 18446744073709551616), .int .u64 (O.padd a b))
 | _ => none
def g_pNeg (O : OO) (l : List Value) : Option (Bool × Value) := match l with
 | [.int .u64 a] => some ((inU a 18446744073709551616), .int .u64 (O.pneg a))
 | _ => none
def g_pBase (O : OO) (l : List Value) : Option (Bool × Value) := match l with
 | [.int .u64 a] => some ((inU a 18446744073709551616), .int .u64 (O.pbase a))
 | _ => none
def g_pScale (O : OO) (l : List Value) : Option (Bool × Value) := match l with
 | [.int .u64 a, .int .u64 b] => some ((inU a 18446744073709551616) && (inU b 18446744073709551616), .int .u64 (O.pscale a b))
 | _ => none
def g_pTimes (O : OO) (l : List Value) : Option (Bool × Value) := match l with
 | [.int .u64 a, .int .u64 b] => some ((inU a 18446744073709551616) && (inU b 18446744073709551616), .int .u64 (O.pt a b))
 | _ => none
def g_pTaken (O : OO) (l : List Value) : Option (Bool × Value) := match l with
 | [.int .u64 a] => some ((inU a 18446744073709551616), .int .u64 (O.ptaken a))
 | _ => none
def g_rRight6 (O : OO) (l : List Value) : Option (Bool × Value) := match l with
 | [.int .u64 a] => some ((inU a 18446744073709551616), .bool (O.pright a))
 | _ => none
def g_rAdd6 (O : OO) (l : List Value) : Option (Bool × Value) := match l with
 | [.int .u64 a, .int .u64 b] => some ((inU a 18446744073709551616) && (inU b 18446744073709551616), .int .u64 (O.padd a b))
 | _ => none
def g_rBase6 (O : OO) (l : List Value) : Option (Bool × Value) := match l with
 | [.int .u64 a] => some ((inU a 18446744073709551616), .int .u64 (O.pbase a))
 | _ => none
def g_rScale6 (O : OO) (l : List Value) : Option (Bool × Value) := match l with
 | [.int .u64 a, .int .u64 b] => some ((inU a 18446744073709551616) && (inU b 18446744073709551616), .int .u64 (O.pscale a b))
 | _ => none
def spW (O : OO) (f : FuncId) : Option Sx.Spec := match f with
 | 109 => some (Sx.vspec (g_pTimes O))
 | _ => none
def inUs (b : Nat) (l : List Int) : Bool := l.all fun x => inU x b
def g_All (O : OO) (xs : List Arg) : Option (Bool × List Ret) := match xs with
 | [.ints l] => some (inUs 18446744073709551616 l && Nat.ble l.length 9223372036854775807, [.v (.int .u64 (O.pall l))])
 | _ => none
def pallO (O : OO) (l : List Int) : Int := l.foldl (fun o a => O.pt o (O.ptaken a)) 1
def anAll (O : OO) (l : List Int) : List Ann := [
 ⟨Nat, [6, 7], [], fun B j => [(3, .v (.int .u64 (pallO O (l.take j)))), (8, .v (.int .i64 (j : Int)))], fun B j => [], fun j => j ≤ l.length, fun j => l.length - j, 0⟩]
def g_tagO (O : OO) (xs : List Arg) : Option (Bool × List Ret) := match xs with
 | [.v (.string s), .rows ps] => some (Nat.ble (tagN s.size ps) 1099511627776, [.v (HV (O.tag s ps))])
 | _ => none
def g_LongO (O : OO) (xs : List Arg) : Option (Bool × List Ret) := match xs with
 | [.v (.int .u64 n)] => some (true, [.ints 5 .u8 (O.be8 n)])
 | _ => none
def g_sumO (O : OO) (xs : List Arg) : Option (Bool × List Ret) := match xs with
 | [.ints l] => some (Nat.ble l.length 1099511627776, [.v (HV (O.sum l))])
 | _ => none
theorem ok_hSum (I : Sx.Interp) (O : OO) (hO : O = oo) : Sx.SpecOK I Try.prog 41 (gspec [.ro .u8] (g_sumO O)) := by
 subst hO; rw [show g_sumO oo = g_sum os by kernel_rfl]; exact ok_psum I os rfl
theorem ok_hTag (I : Sx.Interp) (O : OO) (hO : O = oo) : Sx.SpecOK I Try.prog 64 (gspec [.v, .ros] (g_tagO O)) := by
 subst hO; rw [show g_tagO oo = g_tag os by kernel_rfl]; exact ok_ptag I os rfl