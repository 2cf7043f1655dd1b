/- Contracts of field, point and hash for the symbolic machine (printed by gensg.py). -/
import Derived.Test.YtgekiddgdjeaiaaGreatHi5
import Derived.Test.YtgekiddgdjeaiaaGreatPoint2
import Derived.Test.YtgekiddgdjeaiaaGreatRef05
import Derived.Test.YtgekiddgdjeaiaaGreatRefF
import Derived.Test.YtgekiddgdjeaiaaGreatRef06
namespace Go.Proofs.YtgekiddgdjeaiaaGreat
open Go.RowKit Go.Lib Ckp Cfd Cpd Sx
set_option linter.unusedVariables false
set_option linter.unusedSimpArgs false
set_option maxRecDepth 1000000
def aw7 : Value → Bool
 | .int .u8 x => decide (0 ≤ x) && decide (x < 256)
 | _ => false
def alm (a : Array Value) : Bool := Nat.beq a.size 32 && a.toList.all aw7
def bhe : Value → Nat
 | .int _ x => x.toNat
 | _ => 0
def ak1 (a : Array Value) : List Nat := a.toList.map bhe
theorem a0z {v : Value} (h : aw7 v = true) : ∃ n : Nat, n < 256 ∧ v = .int .u8 (n : Int) ∧ bhe v = n := by
 unfold aw7 at h
 split at h
 ·rename_i x
  simp only [zaT, decide_eq_true_eq] at h
  exact ⟨x.toNat, by omega, by rw [Int.toNat_of_nonneg h.1], rfl⟩
 ·cases h
theorem ar1 {a : Array Value} (h : alm a = true) : ∃ l : List Nat, l.length = 32 ∧ (∀ i, l.getD i 0 < 256) ∧ a = (l.map fun n : Nat => Value.int .u8 (n : Int)).toArray ∧ ak1 a = l := by
 simp only [alm, zaT] at h
 have hs := zbE h.1
 have key : ∀ vs : List Value, vs.all aw7 = true → (∀ n ∈ vs.map bhe, n < 256) ∧ vs = (vs.map bhe).map fun n : Nat => Value.int .u8 (n : Int) := by
  intro vs
  induction vs with
  | nil => intro _; exact ⟨by simp, rfl⟩
  | cons v vs ih =>
   intro hv
   simp only [List.all_cons, zaT] at hv
   obtain ⟨n, h1, h2, h3⟩ := a0z hv.1
   obtain ⟨i1, i2⟩ := ih hv.2
   refine ⟨?_, ?_⟩
   ·intro m hm
    simp only [List.map_cons, List.mem_cons] at hm
    rcases hm with rfl | hm
    ·rw [h3]; exact h1
    ·exact i1 m hm
   ·simp only [List.map_cons, h3]
    rw [← i2, ← h2]
 obtain ⟨k1, k2⟩ := key a.toList h.2
 refine ⟨ak1 a, by simp [ak1, hs], fun i => ?_, ?_, rfl⟩
 ·rw [List.getD_eq_getElem?_getD]
  cases hi : (ak1 a)[i]? with
  | none => simp
  | some n => exact k1 n (List.mem_of_getElem? hi)
 ·apply Array.ext'; simpa [ak1] using k2
theorem azt (a : Array Value) (h : alm a = true) (w : World) : Calls Tryz.prog 98 #[.agg a] w fun e w' => e = .returned (.int .u64 (lm (ak1 a) : Nat)) ∧ Kp w w' := by
 obtain ⟨l, h1, h2, h3, h4⟩ := ar1 h
 rw [h4, h3, show (l.map fun n : Nat => Value.int .u8 (n : Int)).toArray = bcs l by unfold bcs; rfl]
 exact a6k l h1 h2 w
def awy (l : List Int) : Int := l.foldl (fun o a => ((pt o.toNat (mr a.toNat) : Nat) : Int)) 1
structure OO where
 y9 : Int → Bool
 ab8 : Int → Int → Int
 ah4 : Int → Int → Int
 uk : Int → Int → Int
 a8n : Int → Int
 iw : Int → Bool
 uo : Int → Int → Int
 ahq : Int → Int
 jl : Int → Int
 mi : Int → Int → Int
 pt : Int → Int → Int
 mr : Int → Int
 abj : List Int → Int
 isH : Array Value → Bool
 lm : Array Value → Int
 be8 : Int → List Int
 sum : List Int → Nat → Int
 tag : ByteArray → List (List Int) → Nat → Int
def oo : OO := ⟨fun a => y9 a.toNat, fun a b => ((ab8 a.toNat b.toNat : Nat) : Int), fun a b => ((ah4 a.toNat b.toNat : Nat) : Int), fun a b => ((uk a.toNat b.toNat : Nat) : Int), fun a => ((a8n a.toNat : Nat) : Int), fun a => iw a.toNat, fun a b => ((uo a.toNat b.toNat : Nat) : Int), fun a => ((ahq a.toNat : Nat) : Int), fun a => ((jl a.toNat : Nat) : Int), fun a b => ((mi a.toNat b.toNat : Nat) : Int), fun a b => ((pt a.toNat b.toNat : Nat) : Int), fun a => ((mr a.toNat : Nat) : Int), awy, alm, fun a => ((lm (ak1 a) : Nat) : Int), ao6, os.sum, os.tag⟩
def bbb (O : OO) (l : List Value) : Option (Bool × Value) := match l with
 | [.int .u64 a] => some ((inU a 18446744073709551616), .bool (O.y9 a))
 | _ => none
def bkt (O : OO) (l : List Value) : Option (Bool × Value) := match l with
 | [.int .u64 a, .int .u64 b] => some ((inU a 18446744073709551616) && (inU b 18446744073709551616), .int .u64 (O.ab8 a b))
 | _ => none
def bmh (O : OO) (l : List Value) : Option (Bool × Value) := match l with
 | [.int .u64 a, .int .u64 b] => some ((inU a 18446744073709551616) && (inU b 18446744073709551616), .int .u64 (O.ah4 a b))
 | _ => none
def bkr (O : OO) (l : List Value) : Option (Bool × Value) := match l with
 | [.int .u64 a, .int .u64 b] => some ((inU a 18446744073709551616) && (inU b 18446744073709551616), .int .u64 (O.uk a b))
 | _ => none
def bk0 (O : OO) (l : List Value) : Option (Bool × Value) := match l with
 | [.int .u64 a] => some ((inU a 18446744073709551616), .int .u64 (O.a8n a))
 | _ => none
def a4c (O : OO) (l : List Value) : Option (Bool × Value) := match l with
 | [.int .u64 a] => some ((inU a 18446744073709551616), .bool (O.y9 a))
 | _ => none
def bjy (O : OO) (l : List Value) : Option (Bool × Value) := match l with
 | [.int .u64 a, .int .u64 b] => some ((inU a 18446744073709551616) && (inU b 18446744073709551616), .int .u64 (O.ab8 a b))
 | _ => none
def bfj (O : OO) (l : List Value) : Option (Bool × Value) := match l with
 | [.int .u64 a, .int .u64 b] => some ((inU a 18446744073709551616) && (inU b 18446744073709551616), .int .u64 (O.ah4 a b))
 | _ => none
def bf8 (O : OO) (l : List Value) : Option (Bool × Value) := match l with
 | [.int .u64 a, .int .u64 b] => some ((inU a 18446744073709551616) && (inU b 18446744073709551616), .int .u64 (O.uk a b))
 | _ => none
def bj0 (O : OO) (l : List Value) : Option (Bool × Value) := match l with
 | [.agg x] => some ((decide (O.isH x = true)), .int .u64 (O.lm x))
 | _ => none
def ang (O : OO) (l : List Value) : Option (Bool × Value) := match l with
 | [.agg x] => some ((decide (O.isH x = true)), .int .u64 (O.lm x))
 | _ => none
theorem a5f (I : Sx.Interp) (O : OO) (hO : O = oo) : ag I Tryz.prog 98 (bz (ang O)) := by
 subst hO
 refine uj Tryz.func98 (by kernel_rfl) (by kernel_rfl) ?_
 intro l v hg w
 unfold ang at hg
 split at hg
 ·rename_i x
  simp only [zsI, zpI, zaT, true_and] at hg
  obtain ⟨hc, rfl⟩ := hg
  have h0 := hc
  have p0 := of_decide_eq_true h0
  exact bpn (azt x p0 w)
 ·cases hg
def apj (O : OO) (l : List Value) : Option (Bool × Value) := match l with
 | [.int .u64 a] => some ((inU a 18446744073709551616), .bool (O.iw a))
 | _ => none
theorem a8c (I : Sx.Interp) (O : OO) (hO : O = oo) : ag I Tryz.prog 70 (bz (apj O)) := by
 subst hO
 refine uj Tryz.func70 (by kernel_rfl) (by kernel_rfl) ?_
 intro l v hg w
 unfold apj at hg
 split at hg
 ·rename_i a
  simp only [zsI, zpI, zaT, true_and] at hg
  obtain ⟨hc, rfl⟩ := hg
  have h0 := hc
  obtain ⟨n_a, rfl, l0⟩ := ado h0
  simp only [oo, ztN]
  exact bbx (aih n_a l0 w)
 ·cases hg
def bld (O : OO) (l : List Value) : Option (Bool × Value) := match l with
 | [.int .u64 a, .int .u64 b] => some ((inU a 18446744073709551616) && (inU b 18446744073709551616), .int .u64 (O.uo a b))
 | _ => none
def bmj (O : OO) (l : List Value) : Option (Bool × Value) := match l with
 | [.int .u64 a] => some ((inU a 18446744073709551616), .int .u64 (O.ahq a))
 | _ => none
def asw (O : OO) (l : List Value) : Option (Bool × Value) := match l with
 | [.int .u64 a] => some ((inU a 18446744073709551616), .int .u64 (O.jl a))
 | _ => none
theorem bdu (I : Sx.Interp) (O : OO) (hO : O = oo) : ag I Tryz.prog 31 (bz (asw O)) := by
 subst hO
 refine uj Tryz.func31 (by kernel_rfl) (by kernel_rfl) ?_
 intro l v hg w
 unfold asw at hg
 split at hg
 ·rename_i a
  simp only [zsI, zpI, zaT, true_and] at hg
  obtain ⟨hc, rfl⟩ := hg
  have h0 := hc
  obtain ⟨n_a, rfl, l0⟩ := ado h0
  simp only [oo, ztN]
  exact bbx (a6j n_a w)
 ·cases hg
def anf (O : OO) (l : List Value) : Option (Bool × Value) := match l with
 | [.int .u64 a, .int .u64 b] => some ((inU a 18446744073709551616) && (inU b 18446744073709551616), .int .u64 (O.mi a b))
 | _ => none
theorem a4p (I : Sx.Interp) (O : OO) (hO : O = oo) : ag I Tryz.prog 69 (bz (anf O)) := by
 subst hO
 refine uj Tryz.func69 (by kernel_rfl) (by kernel_rfl) ?_
 intro l v hg w
 unfold anf at hg
 split at hg
 ·rename_i a b
  simp only [zsI, zpI, zaT, true_and] at hg
  obtain ⟨hc, rfl⟩ := hg
  obtain ⟨h0, h1⟩ := hc
  obtain ⟨n_a, rfl, l0⟩ := ado h0
  obtain ⟨n_b, rfl, l1⟩ := ado h1
  simp only [oo, ztN]
  exact bbx (anq n_a n_b l0 w)
 ·cases hg
def bco (O : OO) (l : List Value) : Option (Bool × Value) := match l with
 | [.int .u64 a, .int .u64 b] => some ((inU a 18446744073709551616) && (inU b 18446744073709551616), .int .u64 (O.pt a b))
 | _ => none
def a8v (O : OO) (l : List Value) : Option (Bool × Value) := match l with
 | [.int .u64 a] => some ((inU a 18446744073709551616), .int .u64 (O.mr a))
 | _ => none
def ajx (O : OO) (l : List Value) : Option (Bool × Value) := match l with
 | [.int .u64 a] => some ((inU a 18446744073709551616), .bool (O.iw a))
 | _ => none
theorem a0l (I : Sx.Interp) (O : OO) (hO : O = oo) : ag I Tryz.prog 73 (bz (ajx O)) := by
 subst hO
 refine uj Tryz.func73 (by kernel_rfl) (by kernel_rfl) ?_
 intro l v hg w
 unfold ajx at hg
 split at hg
 ·rename_i a
  simp only [zsI, zpI, zaT, true_and] at hg
  obtain ⟨hc, rfl⟩ := hg
  have h0 := hc
  obtain ⟨n_a, rfl, l0⟩ := ado h0
  simp only [oo, ztN]
  exact a8p (ags n_a w)
 ·cases hg
def bhd (O : OO) (l : List Value) : Option (Bool × Value) := match l with
 | [.int .u64 a, .int .u64 b] => some ((inU a 18446744073709551616) && (inU b 18446744073709551616), .int .u64 (O.uo a b))
 | _ => none
def an8 (O : OO) (l : List Value) : Option (Bool × Value) := match l with
 | [.int .u64 a] => some ((inU a 18446744073709551616), .int .u64 (O.jl a))
 | _ => none
theorem a4a (I : Sx.Interp) (O : OO) (hO : O = oo) : ag I Tryz.prog 41 (bz (an8 O)) := by
 subst hO
 refine uj Tryz.func41 (by kernel_rfl) (by kernel_rfl) ?_
 intro l v hg w
 unfold an8 at hg
 split at hg
 ·rename_i a
  simp only [zsI, zpI, zaT, true_and] at hg
  obtain ⟨hc, rfl⟩ := hg
  have h0 := hc
  obtain ⟨n_a, rfl, l0⟩ := ado h0
  simp only [oo, ztN]
  exact a8p (azn n_a w)
 ·cases hg
def aj3 (O : OO) (l : List Value) : Option (Bool × Value) := match l with
 | [.int .u64 a, .int .u64 b] => some ((inU a 18446744073709551616) && (inU b 18446744073709551616), .int .u64 (O.mi a b))
 | _ => none
theorem ayz (I : Sx.Interp) (O : OO) (hO : O = oo) : ag I Tryz.prog 76 (bz (aj3 O)) := by
 subst hO
 refine uj Tryz.func76 (by kernel_rfl) (by kernel_rfl) ?_
 intro l v hg w
 unfold aj3 at hg
 split at hg
 ·rename_i a b
  simp only [zsI, zpI, zaT, true_and] at hg
  obtain ⟨hc, rfl⟩ := hg
  obtain ⟨h0, h1⟩ := hc
  obtain ⟨n_a, rfl, l0⟩ := ado h0
  obtain ⟨n_b, rfl, l1⟩ := ado h1
  simp only [oo, ztN]
  exact a8p (ak5 n_a n_b w)
 ·cases hg
def spW (O : OO) (f : FuncId) : Option Sx.Spec := match f with
 | 115 => some (bz (bco O))
 | 101 => some (bz (a8v O))
 | _ => none
def aqg (b : Nat) (l : List Int) : Bool := l.all fun x => inU x b
def bpr (O : OO) (xs : List Arg) : Option (Bool × List Ret) := match xs with
 | [.ints l] => some (aqg 18446744073709551616 l && Nat.ble l.length 9223372036854775807, [.v (.int .u64 (O.abj l))])
 | _ => none
def bpb (O : OO) (l : List Int) : Int := l.foldl (fun o a => O.pt o (O.mr a)) 1
def bq2 (O : OO) (l : List Int) : List Ann := [
 ⟨Nat, [6, 7], [], fun B j => [(3, .v (.int .u64 (bpb O (l.take j)))), (8, .v (.int .i64 (j : Int)))], fun B j => [], fun j => j ≤ l.length, fun j => l.length - j, 0⟩]
def au8 (O : OO) (xs : List Arg) : Option (Bool × List Ret) := match xs with
 | [.v (.string s), .rows ps] => some (Nat.ble (ah5 s.size ps) 1099511627776, [.v (HV (O.tag s ps))])
 | _ => none
def at7 (O : OO) (xs : List Arg) : Option (Bool × List Ret) := match xs with
 | [.v (.int .u64 n)] => some (true, [.ints 5 .u8 (O.be8 n)])
 | _ => none
def atb (O : OO) (xs : List Arg) : Option (Bool × List Ret) := match xs with
 | [.ints l] => some (Nat.ble l.length 1099511627776, [.v (HV (O.sum l))])
 | _ => none
theorem a8w (I : Sx.Interp) (O : OO) (hO : O = oo) : ag I Tryz.prog 121 (l7 [.ro .u8] (atb O)) := by
 subst hO; rw [show atb oo = aq9 os by kernel_rfl]; exact a3o I os rfl
theorem be1 (I : Sx.Interp) (O : OO) (hO : O = oo) : ag I Tryz.prog 113 (l7 [.v, .ros] (au8 O)) := by
 subst hO; rw [show au8 oo = a1c os by kernel_rfl]; exact bjp I os rfl
theorem a4m (I : Sx.Interp) (O : OO) (hO : O = oo) : ag I Tryz.prog 120 (l7 [.v] (at7 O)) := by
 subst hO; rw [show at7 oo = apc os by kernel_rfl]; exact a1y I os rfl