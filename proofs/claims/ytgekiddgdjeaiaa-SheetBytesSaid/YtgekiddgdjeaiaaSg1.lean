/- Contracts of field, point and hash for the symbolic machine (printed by gensg.py). -/
import Derived.Test.YtgekiddgdjeaiaaHi5
import Derived.Test.YtgekiddgdjeaiaaPoint2
import Derived.Test.YtgekiddgdjeaiaaRef05
import Derived.Test.YtgekiddgdjeaiaaRefF
import Derived.Test.YtgekiddgdjeaiaaRef06
namespace Go.Proofs.Ytgekiddgdjeaiaa
open Go.RowKit Go.Lib Ckp Cfd Cpd Sx
set_option linter.unusedVariables false
set_option linter.unusedSimpArgs false
set_option maxRecDepth 1000000
def byteV : Value → Bool
 | .int .u8 x => decide (0 ≤ x) && decide (x < 256)
 | _ => false
/-- Is it a sum? -/
def isHa (a : Array Value) : Bool := Nat.beq a.size 32 && a.toList.all byteV
def natV : Value → Nat
 | .int _ x => x.toNat
 | _ => 0
def natsA (a : Array Value) : List Nat := a.toList.map natV
theorem byteV_spec {v : Value} (h : byteV v = true) : ∃ n : Nat, n < 256 ∧ v = .int .u8 (n : Int) ∧ natV v = n := by
 unfold byteV at h
 split at h
 ·rename_i x
  simp only [Bool.and_eq_true, decide_eq_true_eq] at h
  exact ⟨x.toNat, by omega, by rw [Int.toNat_of_nonneg h.1], rfl⟩
 ·cases h
theorem isHa_spec {a : Array Value} (h : isHa a = true) : ∃ l : List Nat, l.length = 32 ∧ (∀ i, l.getD i 0 < 256) ∧ a = (l.map fun n : Nat => Value.int .u8 (n : Int)).toArray ∧ natsA a = l := by
 simp only [isHa, Bool.and_eq_true] at h
 have hs := Nat.eq_of_beq_eq_true h.1
 have key : ∀ vs : List Value, vs.all byteV = true → (∀ n ∈ vs.map natV, n < 256) ∧ vs = (vs.map natV).map fun n : Nat => Value.int .u8 (n : Int) := by
  intro vs
  induction vs with
  | nil => intro _; exact ⟨by simp, rfl⟩
  | cons v vs ih =>
   intro hv
   simp only [List.all_cons, Bool.and_eq_true] at hv
   obtain ⟨n, h1, h2, h3⟩ := byteV_spec hv.1
   obtain ⟨i1, i2⟩ := ih hv.2
   refine ⟨?_, ?_⟩
   ·intro m hm
    simp only [List.map_cons, List.mem_cons] at hm
    rcases hm with rfl | hm
    ·rw [h3]; exact h1
    ·exact i1 m hm
   ·simp only [List.map_cons, h3]
    rw [← i2, ← h2]
 obtain ⟨k1, k2⟩ := key a.toList h.2
 refine ⟨natsA a, by simp [natsA, hs], fun i => ?_, ?_, rfl⟩
 ·rw [List.getD_eq_getElem?_getD]
  cases hi : (natsA a)[i]? with
  | none => simp
  | some n => exact k1 n (List.mem_of_getElem? hi)
 ·apply Array.ext'; simpa [natsA] using k2
theorem rfromA_any (a : Array Value) (h : isHa a = true) (w : World) : Calls Try.prog 72 #[.agg a] w fun e w' => e = .returned (.int .u64 (ffrom (natsA a) : Nat)) ∧ Kp w w' := by
 obtain ⟨l, h1, h2, h3, h4⟩ := isHa_spec h
 rw [h4, h3, show (l.map fun n : Nat => Value.int .u8 (n : Int)).toArray = bcs l by unfold bcs; rfl]
 exact rfrom_any l h1 h2 w
def pallI (l : List Int) : Int := l.foldl (fun o a => ((pt o.toNat (ptaken a.toNat) : Nat) : Int)) 1
structure OO where
 fright : Int → Bool
 fadd : Int → Int → Int
 fsub : Int → Int → Int
 fmul : Int → Int → Int
 fneg : Int → Int
 pright : Int → Bool
 padd : Int → Int → Int
 pneg : Int → Int
 pbase : Int → Int
 pscale : Int → Int → Int
 pt : Int → Int → Int
 ptaken : Int → Int
 pall : List Int → Int
 isH : Array Value → Bool
 ffrom : Array Value → Int
 be8 : Int → List Int
 sum : List Int → Nat → Int
 tag : ByteArray → List (List Int) → Nat → Int
def oo : OO := ⟨fun a => fright a.toNat, fun a b => ((fadd a.toNat b.toNat : Nat) : Int), fun a b => ((fsub a.toNat b.toNat : Nat) : Int), fun a b => ((fmul a.toNat b.toNat : Nat) : Int), fun a => ((fneg a.toNat : Nat) : Int), fun a => pright a.toNat, fun a b => ((padd a.toNat b.toNat : Nat) : Int), fun a => ((pneg a.toNat : Nat) : Int), fun a => ((pbase a.toNat : Nat) : Int), fun a b => ((pscale a.toNat b.toNat : Nat) : Int), fun a b => ((pt a.toNat b.toNat : Nat) : Int), fun a => ((ptaken a.toNat : Nat) : Int), pallI, isHa, fun a => ((ffrom (natsA a) : Nat) : Int), be8Z, os.sum, os.tag⟩
def g_fRight (O : OO) (l : List Value) : Option (Bool × Value) := match l with
 | [.int .u64 a] => some ((inU a 18446744073709551616), .bool (O.fright a))
 | _ => none
def g_fAdd (O : OO) (l : List Value) : Option (Bool × Value) := match l with
 | [.int .u64 a, .int .u64 b] => some ((inU a 18446744073709551616) && (inU b 18446744073709551616), .int .u64 (O.fadd a b))
 | _ => none
def g_fSub (O : OO) (l : List Value) : Option (Bool × Value) := match l with
 | [.int .u64 a, .int .u64 b] => some ((inU a 18446744073709551616) && (inU b 18446744073709551616), .int .u64 (O.fsub a b))
 | _ => none
def g_fMul (O : OO) (l : List Value) : Option (Bool × Value) := match l with
 | [.int .u64 a, .int .u64 b] => some ((inU a 18446744073709551616) && (inU b 18446744073709551616), .int .u64 (O.fmul a b))
 | _ => none
def g_fNeg (O : OO) (l : List Value) : Option (Bool × Value) := match l with
 | [.int .u64 a] => some ((inU a 18446744073709551616), .int .u64 (O.fneg a))
 | _ => none
def g_rRight5 (O : OO) (l : List Value) : Option (Bool × Value) := match l with
 | [.int .u64 a] => some ((inU a 18446744073709551616), .bool (O.fright a))
 | _ => none
def g_rAdd5 (O : OO) (l : List Value) : Option (Bool × Value) := match l with
 | [.int .u64 a, .int .u64 b] => some ((inU a 18446744073709551616) && (inU b 18446744073709551616), .int .u64 (O.fadd a b))
 | _ => none
def g_rSub5 (O : OO) (l : List Value) : Option (Bool × Value) := match l with
 | [.int .u64 a, .int .u64 b] => some ((inU a 18446744073709551616) && (inU b 18446744073709551616), .int .u64 (O.fsub a b))
 | _ => none
def g_rMul5 (O : OO) (l : List Value) : Option (Bool × Value) := match l with
 | [.int .u64 a, .int .u64 b] => some ((inU a 18446744073709551616) && (inU b 18446744073709551616), .int .u64 (O.fmul a b))
 | _ => none
def g_fFrom (O : OO) (l : List Value) : Option (Bool × Value) := match l with
 | [.agg x] => some ((decide (O.isH x = true)), .int .u64 (O.ffrom x))
 | _ => none
def g_rFrom5 (O : OO) (l : List Value) : Option (Bool × Value) := match l with
 | [.agg x] => some ((decide (O.isH x = true)), .int .u64 (O.ffrom x))
 | _ => none
theorem ok_rFrom5 (I : Sx.Interp) (O : OO) (hO : O = oo) : Sx.SpecOK I Try.prog 72 (Sx.vspec (g_rFrom5 O)) := by
 subst hO
 refine Sx.spec_of_calls Try.func72 (by kernel_rfl) (by kernel_rfl) ?_
 intro l v hg w
 unfold g_rFrom5 at hg
 split at hg
 ·rename_i x
  simp only [Option.some.injEq, Prod.mk.injEq, Bool.and_eq_true, true_and] at hg
  obtain ⟨hc, rfl⟩ := hg
  have h0 := hc
  have p0 := of_decide_eq_true h0
  exact Sx.fr_kp (rfromA_any x p0 w)
 ·cases hg
def g_pRight (O : OO) (l : List Value) : Option (Bool × Value) := match l with
 | [.int .u64 a] => some ((inU a 18446744073709551616), .bool (O.pright a))
 | _ => none
theorem ok_pRight (I : Sx.Interp) (O : OO) (hO : O = oo) : Sx.SpecOK I Try.prog 51 (Sx.vspec (g_pRight O)) := by
 subst hO
 refine Sx.spec_of_calls Try.func51 (by kernel_rfl) (by kernel_rfl) ?_
 intro l v hg w
 unfold g_pRight at hg
 split at hg
 ·rename_i a
  simp only [Option.some.injEq, Prod.mk.injEq, Bool.and_eq_true, true_and] at hg
  obtain ⟨hc, rfl⟩ := hg
  have h0 := hc
  obtain ⟨n_a, rfl, l0⟩ := inU_nat h0
  simp only [oo, Int.toNat_natCast]
  exact Sx.fr_dn (pright_any n_a l0 w)
 ·cases hg
def g_pAdd (O : OO) (l : List Value) : Option (Bool × Value) := match l with
 | [.int .u64 a, .int .u64 b] => some ((inU a 18446744073709551616) && (inU b 18446744073709551616), .int .u64 (O.padd a b))
 | _ => none
def g_pNeg (O : OO) (l : List Value) : Option (Bool × Value) := match l with
 | [.int .u64 a] => some ((inU a 18446744073709551616), .int .u64 (O.pneg a))
 | _ => none
def g_pBase (O : OO) (l : List Value) : Option (Bool × Value) := match l with
 | [.int .u64 a] => some ((inU a 18446744073709551616), .int .u64 (O.pbase a))
 | _ => none
theorem ok_pBase (I : Sx.Interp) (O : OO) (hO : O = oo) : Sx.SpecOK I Try.prog 11 (Sx.vspec (g_pBase O)) := by
 subst hO
 refine Sx.spec_of_calls Try.func11 (by kernel_rfl) (by kernel_rfl) ?_
 intro l v hg w
 unfold g_pBase at hg
 split at hg
 ·rename_i a
  simp only [Option.some.injEq, Prod.mk.injEq, Bool.and_eq_true, true_and] at hg
  obtain ⟨hc, rfl⟩ := hg
  have h0 := hc
  obtain ⟨n_a, rfl, l0⟩ := inU_nat h0
  simp only [oo, Int.toNat_natCast]
  exact Sx.fr_dn (pbase_any n_a w)
 ·cases hg
def g_pScale (O : OO) (l : List Value) : Option (Bool × Value) := match l with
 | [.int .u64 a, .int .u64 b] => some ((inU a 18446744073709551616) && (inU b 18446744073709551616), .int .u64 (O.pscale a b))
 | _ => none
theorem ok_pScale (I : Sx.Interp) (O : OO) (hO : O = oo) : Sx.SpecOK I Try.prog 26 (Sx.vspec (g_pScale O)) := by
 subst hO
 refine Sx.spec_of_calls Try.func26 (by kernel_rfl) (by kernel_rfl) ?_
 intro l v hg w
 unfold g_pScale at hg
 split at hg
 ·rename_i a b
  simp only [Option.some.injEq, Prod.mk.injEq, Bool.and_eq_true, true_and] at hg
  obtain ⟨hc, rfl⟩ := hg
  obtain ⟨h0, h1⟩ := hc
  obtain ⟨n_a, rfl, l0⟩ := inU_nat h0
  obtain ⟨n_b, rfl, l1⟩ := inU_nat h1
  simp only [oo, Int.toNat_natCast]
  exact Sx.fr_dn (pscale_any n_a n_b l0 w)
 ·cases hg
def g_pTimes (O : OO) (l : List Value) : Option (Bool × Value) := match l with
 | [.int .u64 a, .int .u64 b] => some ((inU a 18446744073709551616) && (inU b 18446744073709551616), .int .u64 (O.pt a b))
 | _ => none
def g_pTaken (O : OO) (l : List Value) : Option (Bool × Value) := match l with
 | [.int .u64 a] => some ((inU a 18446744073709551616), .int .u64 (O.ptaken a))
 | _ => none
def g_rRight6 (O : OO) (l : List Value) : Option (Bool × Value) := match l with
 | [.int .u64 a] => some ((inU a 18446744073709551616), .bool (O.pright a))
 | _ => none
theorem ok_rRight6 (I : Sx.Interp) (O : OO) (hO : O = oo) : Sx.SpecOK I Try.prog 99 (Sx.vspec (g_rRight6 O)) := by
 subst hO
 refine Sx.spec_of_calls Try.func99 (by kernel_rfl) (by kernel_rfl) ?_
 intro l v hg w
 unfold g_rRight6 at hg
 split at hg
 ·rename_i a
  simp only [Option.some.injEq, Prod.mk.injEq, Bool.and_eq_true, true_and] at hg
  obtain ⟨hc, rfl⟩ := hg
  have h0 := hc
  obtain ⟨n_a, rfl, l0⟩ := inU_nat h0
  simp only [oo, Int.toNat_natCast]
  exact Sx.fr_eq (rpright_any n_a w)
 ·cases hg
def g_rAdd6 (O : OO) (l : List Value) : Option (Bool × Value) := match l with
 | [.int .u64 a, .int .u64 b] => some ((inU a 18446744073709551616) && (inU b 18446744073709551616), .int .u64 (O.padd a b))
 | _ => none
def g_rBase6 (O : OO) (l : List Value) : Option (Bool × Value) := match l with
 | [.int .u64 a] => some ((inU a 18446744073709551616), .int .u64 (O.pbase a))
 | _ => none
theorem ok_rBase6 (I : Sx.Interp) (O : OO) (hO : O = oo) : Sx.SpecOK I Try.prog 71 (Sx.vspec (g_rBase6 O)) := by
 subst hO
 refine Sx.spec_of_calls Try.func71 (by kernel_rfl) (by kernel_rfl) ?_
 intro l v hg w
 unfold g_rBase6 at hg
 split at hg
 ·rename_i a
  simp only [Option.some.injEq, Prod.mk.injEq, Bool.and_eq_true, true_and] at hg
  obtain ⟨hc, rfl⟩ := hg
  have h0 := hc
  obtain ⟨n_a, rfl, l0⟩ := inU_nat h0
  simp only [oo, Int.toNat_natCast]
  exact Sx.fr_eq (rpbase_any n_a w)
 ·cases hg
def g_rScale6 (O : OO) (l : List Value) : Option (Bool × Value) := match l with
 | [.int .u64 a, .int .u64 b] => some ((inU a 18446744073709551616) && (inU b 18446744073709551616), .int .u64 (O.pscale a b))
 | _ => none
theorem ok_rScale6 (I : Sx.Interp) (O : OO) (hO : O = oo) : Sx.SpecOK I Try.prog 84 (Sx.vspec (g_rScale6 O)) := by
 subst hO
 refine Sx.spec_of_calls Try.func84 (by kernel_rfl) (by kernel_rfl) ?_
 intro l v hg w
 unfold g_rScale6 at hg
 split at hg
 ·rename_i a b
  simp only [Option.some.injEq, Prod.mk.injEq, Bool.and_eq_true, true_and] at hg
  obtain ⟨hc, rfl⟩ := hg
  obtain ⟨h0, h1⟩ := hc
  obtain ⟨n_a, rfl, l0⟩ := inU_nat h0
  obtain ⟨n_b, rfl, l1⟩ := inU_nat h1
  simp only [oo, Int.toNat_natCast]
  exact Sx.fr_eq (rpscale_any n_a n_b w)
 ·cases hg
def spW (O : OO) (f : FuncId) : Option Sx.Spec := match f with
 | 74 => some (Sx.vspec (g_pTimes O))
 | 50 => some (Sx.vspec (g_pTaken O))
 | _ => none
def inUs (b : Nat) (l : List Int) : Bool := l.all fun x => inU x b
def g_All (O : OO) (xs : List Arg) : Option (Bool × List Ret) := match xs with
 | [.ints l] => some (inUs 18446744073709551616 l && Nat.ble l.length 9223372036854775807, [.v (.int .u64 (O.pall l))])
 | _ => none
def pallO (O : OO) (l : List Int) : Int := l.foldl (fun o a => O.pt o (O.ptaken a)) 1
def anAll (O : OO) (l : List Int) : List Ann := [
 ⟨Nat, [6, 7], [], fun B j => [(3, .v (.int .u64 (pallO O (l.take j)))), (8, .v (.int .i64 (j : Int)))], fun B j => [], fun j => j ≤ l.length, fun j => l.length - j, 0⟩]
def g_tagO (O : OO) (xs : List Arg) : Option (Bool × List Ret) := match xs with
 | [.v (.string s), .rows ps] => some (Nat.ble (tagN s.size ps) 1099511627776, [.v (HV (O.tag s ps))])
 | _ => none
def g_LongO (O : OO) (xs : List Arg) : Option (Bool × List Ret) := match xs with
 | [.v (.int .u64 n)] => some (true, [.ints 5 .u8 (O.be8 n)])
 | _ => none
def g_sumO (O : OO) (xs : List Arg) : Option (Bool × List Ret) := match xs with
 | [.ints l] => some (Nat.ble l.length 1099511627776, [.v (HV (O.sum l))])
 | _ => none
theorem ok_rSum4 (I : Sx.Interp) (O : OO) (hO : O = oo) : Sx.SpecOK I Try.prog 95 (gspec [.ro .u8] (g_sumO O)) := by
 subst hO; rw [show g_sumO oo = g_sum os by kernel_rfl]; exact ok_rsum I os rfl
theorem ok_rTag4 (I : Sx.Interp) (O : OO) (hO : O = oo) : Sx.SpecOK I Try.prog 85 (gspec [.v, .ros] (g_tagO O)) := by
 subst hO; rw [show g_tagO oo = g_tag os by kernel_rfl]; exact ok_rtag I os rfl
theorem ok_rLong4 (I : Sx.Interp) (O : OO) (hO : O = oo) : Sx.SpecOK I Try.prog 94 (gspec [.v] (g_LongO O)) := by
 subst hO; rw [show g_LongO oo = g_Long os by kernel_rfl]; exact ok_Long I os rfl