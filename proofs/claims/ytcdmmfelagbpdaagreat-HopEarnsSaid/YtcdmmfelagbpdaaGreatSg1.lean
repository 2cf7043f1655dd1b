/- Contracts of field, point and hash for the symbolic machine (printed by gensg.py). -/
import Derived.Test.YtcdmmfelagbpdaaGreatHi5
import Derived.Test.YtcdmmfelagbpdaaGreatPoint2
import Derived.Test.YtcdmmfelagbpdaaGreatRef05
import Derived.Test.YtcdmmfelagbpdaaGreatRefF
import Derived.Test.YtcdmmfelagbpdaaGreatRef06
namespace Go.Proofs.YtcdmmfelagbpdaaGreat
open Go.RowKit Go.Lib Ckp Cfd Cpd Sx
set_option linter.unusedVariables false
set_option linter.unusedSimpArgs false
set_option maxRecDepth 1000000
def byteV : Value → Bool
 | .int .u8 x => decide (0 ≤ x) && decide (x < 256)
 | _ => false
def isHa (a : Array Value) : Bool := Nat.beq a.size 32 && a.toList.all byteV
def natV : Value → Nat
 | .int _ x => x.toNat
 | _ => 0
def natsA (a : Array Value) : List Nat := a.toList.map natV
theorem byteV_spec {v : Value} (h : byteV v = true) : ∃ n : Nat, n < 256 ∧ v = .int .u8 (n : Int) ∧ natV v = n := by
 unfold byteV at h
 split at h
 ·rename_i x
  simp only [Bool.and_eq_true, decide_eq_true_eq] at h
  exact ⟨x.toNat, by omega, by rw [Int.toNat_of_nonneg h.1], rfl⟩
 ·cases h
theorem isHa_spec {a : Array Value} (h : isHa a = true) : ∃ l : List Nat, l.length = 32 ∧ (∀ i, l.getD i 0 < 256) ∧ a = (l.map fun n : Nat => Value.int .u8 (n : Int)).toArray ∧ natsA a = l := by
 simp only [isHa, Bool.and_eq_true] at h
 have hs := Nat.eq_of_beq_eq_true h.1
 have key : ∀ vs : List Value, vs.all byteV = true → (∀ n ∈ vs.map natV, n < 256) ∧ vs = (vs.map natV).map fun n : Nat => Value.int .u8 (n : Int) := by
  intro vs
  induction vs with
  | nil => intro _; exact ⟨by simp, rfl⟩
  | cons v vs ih =>
   intro hv
   simp only [List.all_cons, Bool.and_eq_true] at hv
   obtain ⟨n, h1, h2, h3⟩ := byteV_spec hv.1
   obtain ⟨i1, i2⟩ := ih hv.2
   refine ⟨?_, ?_⟩
   ·intro m hm
    simp only [List.map_cons, List.mem_cons] at hm
    rcases hm with rfl | hm
    ·rw [h3]; exact h1
    ·exact i1 m hm
   ·simp only [List.map_cons, h3]
    rw [← i2, ← h2]
 obtain ⟨k1, k2⟩ := key a.toList h.2
 refine ⟨natsA a, by simp [natsA, hs], fun i => ?_, ?_, rfl⟩
 ·rw [List.getD_eq_getElem?_getD]
  cases hi : (natsA a)[i]? with
  | none => simp
  | some n => exact k1 n (List.mem_of_getElem? hi)
 ·apply Array.ext'; simpa [natsA] using k2
theorem rfromA_any (a : Array Value) (h : isHa a = true) (w : World) : Calls Tryz.prog 41 #[.agg a] w fun e w' => e = .returned (.int .u64 (ffrom (natsA a) : Nat)) ∧ Kp w w' := by
 obtain ⟨l, h1, h2, h3, h4⟩ := isHa_spec h
 rw [h4, h3, show (l.map fun n : Nat => Value.int .u8 (n : Int)).toArray = bcs l by unfold bcs; rfl]
 exact rfrom_any l h1 h2 w
def pallI (l : List Int) : Int := l.foldl (fun o a => ((pt o.toNat (ptaken a.toNat) : Nat) : Int)) 1
structure OO where
 fright : Int → Bool
 fadd : Int → Int → Int
 fsub : Int → Int → Int
 fmul : Int → Int → Int
 fneg : Int → Int
 pright : Int → Bool
 padd : Int → Int → Int
 pneg : Int → Int
 pbase : Int → Int
 pscale : Int → Int → Int
 pt : Int → Int → Int
 ptaken : Int → Int
 pall : List Int → Int
 isH : Array Value → Bool
 ffrom : Array Value → Int
 be8 : Int → List Int
 sum : List Int → Nat → Int
 tag : ByteArray → List (List Int) → Nat → Int
def oo : OO := ⟨fun a => fright a.toNat, fun a b => ((fadd a.toNat b.toNat : Nat) : Int), fun a b => ((fsub a.toNat b.toNat : Nat) : Int), fun a b => ((fmul a.toNat b.toNat : Nat) : Int), fun a => ((fneg a.toNat : Nat) : Int), fun a => pright a.toNat, fun a b => ((padd a.toNat b.toNat : Nat) : Int), fun a => ((pneg a.toNat : Nat) : Int), fun a => ((pbase a.toNat : Nat) : Int), fun a b => ((pscale a.toNat b.toNat : Nat) : Int), fun a b => ((pt a.toNat b.toNat : Nat) : Int), fun a => ((ptaken a.toNat : Nat) : Int), pallI, isHa, fun a => ((ffrom (natsA a) : Nat) : Int), be8Z, os.sum, os.tag⟩
def g_fRight (O : OO) (l : List Value) : Option (Bool × Value) := match l with
 | [.int .u64 a] => some ((inU a 18446744073709551616), .bool (O.fright a))
 | _ => none
def g_fAdd (O : OO) (l : List Value) : Option (Bool × Value) := match l with
 | [.int .u64 a, .int .u64 b] => some ((inU a 18446744073709551616) && (inU b 18446744073709551616), .int .u64 (O.fadd a b))
 | _ => none
theorem ok_fAdd (I : Sx.Interp) (O : OO) (hO : O = oo) : Sx.SpecOK I Tryz.prog 73 (Sx.vspec (g_fAdd O)) := by
 subst hO
 refine Sx.spec_of_calls Tryz.func73 (by kernel_rfl) (by kernel_rfl) ?_
 intro l v hg w
 unfold g_fAdd at hg
 split at hg
 ·rename_i a b
  simp only [Option.some.injEq, Prod.mk.injEq, Bool.and_eq_true, true_and] at hg
  obtain ⟨hc, rfl⟩ := hg
  obtain ⟨h0, h1⟩ := hc
  obtain ⟨n_a, rfl, l0⟩ := inU_nat h0
  obtain ⟨n_b, rfl, l1⟩ := inU_nat h1
  simp only [oo, Int.toNat_natCast]
  exact Sx.fr_eq (add_any n_a n_b w)
 ·cases hg
def g_fSub (O : OO) (l : List Value) : Option (Bool × Value) := match l with
 | [.int .u64 a, .int .u64 b] => some ((inU a 18446744073709551616) && (inU b 18446744073709551616), .int .u64 (O.fsub a b))
 | _ => none
def g_fMul (O : OO) (l : List Value) : Option (Bool × Value) := match l with
 | [.int .u64 a, .int .u64 b] => some ((inU a 18446744073709551616) && (inU b 18446744073709551616), .int .u64 (O.fmul a b))
 | _ => none
def g_fNeg (O : OO) (l : List Value) : Option (Bool × Value) := match l with
 | [.int .u64 a] => some ((inU a 18446744073709551616), .int .u64 (O.fneg a))
 | _ => none
def g_rRight5 (O : OO) (l : List Value) : Option (Bool × Value) := match l with
 | [.int .u64 a] => some ((inU a 18446744073709551616), .bool (O.fright a))
 | _ => none
def g_rAdd5 (O : OO) (l : List Value) : Option (Bool × Value) := match l with
 | [.int .u64 a, .int .u64 b] => some ((inU a 18446744073709551616) && (inU b 18446744073709551616), .int .u64 (O.fadd a b))
 | _ => none
def g_rSub5 (O : OO) (l : List Value) : Option (Bool × Value) := match l with
 | [.int .u64 a, .int .u64 b] => some ((inU a 18446744073709551616) && (inU b 18446744073709551616), .int .u64 (O.fsub a b))
 | _ => none
def g_rMul5 (O : OO) (l : List Value) : Option (Bool × Value) := match l with
 | [.int .u64 a, .int .u64 b] => some ((inU a 18446744073709551616) && (inU b 18446744073709551616), .int .u64 (O.fmul a b))
 | _ => none
def g_fFrom (O : OO) (l : List Value) : Option (Bool × Value) := match l with
 | [.agg x] => some ((decide (O.isH x = true)), .int .u64 (O.ffrom x))
 | _ => none
def g_rFrom5 (O : OO) (l : List Value) : Option (Bool × Value) := match l with
 | [.agg x] => some ((decide (O.isH x = true)), .int .u64 (O.ffrom x))
 | _ => none
theorem ok_rFrom5 (I : Sx.Interp) (O : OO) (hO : O = oo) : Sx.SpecOK I Tryz.prog 41 (Sx.vspec (g_rFrom5 O)) := by
 subst hO
 refine Sx.spec_of_calls Tryz.func41 (by kernel_rfl) (by kernel_rfl) ?_
 intro l v hg w
 unfold g_rFrom5 at hg
 split at hg
 ·rename_i x
  simp only [Option.some.injEq, Prod.mk.injEq, Bool.and_eq_true, true_and] at hg
  obtain ⟨hc, rfl⟩ := hg
  have h0 := hc
  have p0 := of_decide_eq_true h0
  exact Sx.fr_kp (rfromA_any x p0 w)
 ·cases hg
def g_pRight (O : OO) (l : List Value) : Option (Bool × Value) := match l with
 | [.int .u64 a] => some ((inU a 18446744073709551616), .bool (O.pright a))
 | _ => none
theorem ok_pRight (I : Sx.Interp) (O : OO) (hO : O = oo) : Sx.SpecOK I Tryz.prog 63 (Sx.vspec (g_pRight O)) := by
 subst hO
 refine Sx.spec_of_calls Tryz.func63 (by kernel_rfl) (by kernel_rfl) ?_
 intro l v hg w
 unfold g_pRight at hg
 split at hg
 ·rename_i a
  simp only [Option.some.injEq, Prod.mk.injEq, Bool.and_eq_true, true_and] at hg
  obtain ⟨hc, rfl⟩ := hg
  have h0 := hc
  obtain ⟨n_a, rfl, l0⟩ := inU_nat h0
  simp only [oo, Int.toNat_natCast]
  exact Sx.fr_dn (pright_any n_a l0 w)
 ·cases hg
def g_pAdd (O : OO) (l : List Value) : Option (Bool × Value) := match l with
 | [.int .u64 a, .int .u64 b] => some ((inU a 18446744073709551616) && (inU b 18446744073709551616), .int .u64 (O.padd a b))
 | _ => none
theorem ok_pAdd (I : Sx.Interp) (O : OO) (hO : O = oo) : Sx.SpecOK I Tryz.prog 8 (Sx.vspec (g_pAdd O)) := by
 subst hO
 refine Sx.spec_of_calls Tryz.func8 (by kernel_rfl) (by kernel_rfl) ?_
 intro l v hg w
 unfold g_pAdd at hg
 split at hg
 ·rename_i a b
  simp only [Option.some.injEq, Prod.mk.injEq, Bool.and_eq_true, true_and] at hg
  obtain ⟨hc, rfl⟩ := hg
  obtain ⟨h0, h1⟩ := hc
  obtain ⟨n_a, rfl, l0⟩ := inU_nat h0
  obtain ⟨n_b, rfl, l1⟩ := inU_nat h1
  simp only [oo, Int.toNat_natCast]
  exact Sx.fr_kp (padd_any n_a n_b l0 l1 w)
 ·cases hg
def g_pNeg (O : OO) (l : List Value) : Option (Bool × Value) := match l with
 | [.int .u64 a] => some ((inU a 18446744073709551616), .int .u64 (O.pneg a))
 | _ => none
def g_pBase (O : OO) (l : List Value) : Option (Bool × Value) := match l with
 | [.int .u64 a] => some ((inU a 18446744073709551616), .int .u64 (O.pbase a))
 | _ => none
theorem ok_pBase (I : Sx.Interp) (O : OO) (hO : O = oo) : Sx.SpecOK I Tryz.prog 6 (Sx.vspec (g_pBase O)) := by
 subst hO
 refine Sx.spec_of_calls Tryz.func6 (by kernel_rfl) (by kernel_rfl) ?_
 intro l v hg w
 unfold g_pBase at hg
 split at hg
 ·rename_i a
  simp only [Option.some.injEq, Prod.mk.injEq, Bool.and_eq_true, true_and] at hg
  obtain ⟨hc, rfl⟩ := hg
  have h0 := hc
  obtain ⟨n_a, rfl, l0⟩ := inU_nat h0
  simp only [oo, Int.toNat_natCast]
  exact Sx.fr_dn (pbase_any n_a w)
 ·cases hg
def g_pScale (O : OO) (l : List Value) : Option (Bool × Value) := match l with
 | [.int .u64 a, .int .u64 b] => some ((inU a 18446744073709551616) && (inU b 18446744073709551616), .int .u64 (O.pscale a b))
 | _ => none
theorem ok_pScale (I : Sx.Interp) (O : OO) (hO : O = oo) : Sx.SpecOK I Tryz.prog 23 (Sx.vspec (g_pScale O)) := by
 subst hO
 refine Sx.spec_of_calls Tryz.func23 (by kernel_rfl) (by kernel_rfl) ?_
 intro l v hg w
 unfold g_pScale at hg
 split at hg
 ·rename_i a b
  simp only [Option.some.injEq, Prod.mk.injEq, Bool.and_eq_true, true_and] at hg
  obtain ⟨hc, rfl⟩ := hg
  obtain ⟨h0, h1⟩ := hc
  obtain ⟨n_a, rfl, l0⟩ := inU_nat h0
  obtain ⟨n_b, rfl, l1⟩ := inU_nat h1
  simp only [oo, Int.toNat_natCast]
  exact Sx.fr_dn (pscale_any n_a n_b l0 w)
 ·cases hg
def g_pTimes (O : OO) (l : List Value) : Option (Bool × Value) := match l with
 | [.int .u64 a, .int .u64 b] => some ((inU a 18446744073709551616) && (inU b 18446744073709551616), .int .u64 (O.pt a b))
 | _ => none
theorem ok_pTimes (I : Sx.Interp) (O : OO) (hO : O = oo) : Sx.SpecOK I Tryz.prog 57 (Sx.vspec (g_pTimes O)) := by
 subst hO
 refine Sx.spec_of_calls Tryz.func57 (by kernel_rfl) (by kernel_rfl) ?_
 intro l v hg w
 unfold g_pTimes at hg
 split at hg
 ·rename_i a b
  simp only [Option.some.injEq, Prod.mk.injEq, Bool.and_eq_true, true_and] at hg
  obtain ⟨hc, rfl⟩ := hg
  obtain ⟨h0, h1⟩ := hc
  obtain ⟨n_a, rfl, l0⟩ := inU_nat h0
  obtain ⟨n_b, rfl, l1⟩ := inU_nat h1
  simp only [oo, Int.toNat_natCast]
  exact Sx.fr_dn (ptimes_any n_a n_b l0 l1 w)
 ·cases hg
def g_pTaken (O : OO) (l : List Value) : Option (Bool × Value) := match l with
 | [.int .u64 a] => some ((inU a 18446744073709551616), .int .u64 (O.ptaken a))
 | _ => none
theorem ok_pTaken (I : Sx.Interp) (O : OO) (hO : O = oo) : Sx.SpecOK I Tryz.prog 54 (Sx.vspec (g_pTaken O)) := by
 subst hO
 refine Sx.spec_of_calls Tryz.func54 (by kernel_rfl) (by kernel_rfl) ?_
 intro l v hg w
 unfold g_pTaken at hg
 split at hg
 ·rename_i a
  simp only [Option.some.injEq, Prod.mk.injEq, Bool.and_eq_true, true_and] at hg
  obtain ⟨hc, rfl⟩ := hg
  have h0 := hc
  obtain ⟨n_a, rfl, l0⟩ := inU_nat h0
  simp only [oo, Int.toNat_natCast]
  exact Sx.fr_dn (ptaken_any n_a l0 w)
 ·cases hg
def g_rRight6 (O : OO) (l : List Value) : Option (Bool × Value) := match l with
 | [.int .u64 a] => some ((inU a 18446744073709551616), .bool (O.pright a))
 | _ => none
theorem ok_rRight6 (I : Sx.Interp) (O : OO) (hO : O = oo) : Sx.SpecOK I Tryz.prog 80 (Sx.vspec (g_rRight6 O)) := by
 subst hO
 refine Sx.spec_of_calls Tryz.func80 (by kernel_rfl) (by kernel_rfl) ?_
 intro l v hg w
 unfold g_rRight6 at hg
 split at hg
 ·rename_i a
  simp only [Option.some.injEq, Prod.mk.injEq, Bool.and_eq_true, true_and] at hg
  obtain ⟨hc, rfl⟩ := hg
  have h0 := hc
  obtain ⟨n_a, rfl, l0⟩ := inU_nat h0
  simp only [oo, Int.toNat_natCast]
  exact Sx.fr_eq (rpright_any n_a w)
 ·cases hg
def g_rAdd6 (O : OO) (l : List Value) : Option (Bool × Value) := match l with
 | [.int .u64 a, .int .u64 b] => some ((inU a 18446744073709551616) && (inU b 18446744073709551616), .int .u64 (O.padd a b))
 | _ => none
def g_rBase6 (O : OO) (l : List Value) : Option (Bool × Value) := match l with
 | [.int .u64 a] => some ((inU a 18446744073709551616), .int .u64 (O.pbase a))
 | _ => none
theorem ok_rBase6 (I : Sx.Interp) (O : OO) (hO : O = oo) : Sx.SpecOK I Tryz.prog 43 (Sx.vspec (g_rBase6 O)) := by
 subst hO
 refine Sx.spec_of_calls Tryz.func43 (by kernel_rfl) (by kernel_rfl) ?_
 intro l v hg w
 unfold g_rBase6 at hg
 split at hg
 ·rename_i a
  simp only [Option.some.injEq, Prod.mk.injEq, Bool.and_eq_true, true_and] at hg
  obtain ⟨hc, rfl⟩ := hg
  have h0 := hc
  obtain ⟨n_a, rfl, l0⟩ := inU_nat h0
  simp only [oo, Int.toNat_natCast]
  exact Sx.fr_eq (rpbase_any n_a w)
 ·cases hg
def g_rScale6 (O : OO) (l : List Value) : Option (Bool × Value) := match l with
 | [.int .u64 a, .int .u64 b] => some ((inU a 18446744073709551616) && (inU b 18446744073709551616), .int .u64 (O.pscale a b))
 | _ => none
theorem ok_rScale6 (I : Sx.Interp) (O : OO) (hO : O = oo) : Sx.SpecOK I Tryz.prog 76 (Sx.vspec (g_rScale6 O)) := by
 subst hO
 refine Sx.spec_of_calls Tryz.func76 (by kernel_rfl) (by kernel_rfl) ?_
 intro l v hg w
 unfold g_rScale6 at hg
 split at hg
 ·rename_i a b
  simp only [Option.some.injEq, Prod.mk.injEq, Bool.and_eq_true, true_and] at hg
  obtain ⟨hc, rfl⟩ := hg
  obtain ⟨h0, h1⟩ := hc
  obtain ⟨n_a, rfl, l0⟩ := inU_nat h0
  obtain ⟨n_b, rfl, l1⟩ := inU_nat h1
  simp only [oo, Int.toNat_natCast]
  exact Sx.fr_eq (rpscale_any n_a n_b w)
 ·cases hg
def spW (O : OO) (f : FuncId) : Option Sx.Spec := match f with
 | 57 => some (Sx.vspec (g_pTimes O))
 | 54 => some (Sx.vspec (g_pTaken O))
 | _ => none
theorem spW_ok (I : Sx.Interp) (O : OO) (hO : O = oo) : ∀ f s, spW O f = some s → Sx.SpecOK I Tryz.prog f s := by
 intro f s h
 unfold spW at h
 split at h
 · cases h; exact ok_pTimes I O hO
 · cases h; exact ok_pTaken I O hO
 ·cases h

def inUs (b : Nat) (l : List Int) : Bool := l.all fun x => inU x b
def g_All (O : OO) (xs : List Arg) : Option (Bool × List Ret) := match xs with
 | [.ints l] => some (inUs 18446744073709551616 l && Nat.ble l.length 9223372036854775807, [.v (.int .u64 (O.pall l))])
 | _ => none
def pallO (O : OO) (l : List Int) : Int := l.foldl (fun o a => O.pt o (O.ptaken a)) 1
def anAll (O : OO) (l : List Int) : List Ann := [
 ⟨Nat, [6, 7], [], fun B j => [(3, .v (.int .u64 (pallO O (l.take j)))), (8, .v (.int .i64 (j : Int)))], fun B j => [], fun j => j ≤ l.length, fun j => l.length - j, 0⟩]
theorem pallO_snoc (O : OO) (l : List Int) {j : Nat} (h : j < l.length) : pallO O (l.take (j + 1)) = O.pt (pallO O (l.take j)) (O.ptaken (l.getD j 0)) := by
 unfold pallO
 rw [List.take_add_one, List.getElem?_eq_getElem h, List.getD_eq_getElem?_getD, List.getElem?_eq_getElem h, List.foldl_append]
 rfl
set_option maxHeartbeats 4000000 in
theorem vc_pall (O : OO) (l : List Int) (out : Int) (hl : inUs 18446744073709551616 l = true) (hr : ∀ o a, inU (O.pt o a) 18446744073709551616 = true) (ht : ∀ a, inU (O.ptaken a) 18446744073709551616 = true) (hm : l.length ≤ 9223372036854775807) (ho : out = pallO O l) :
 (∃ (x : Nat), x ≤ l.length ∧ (Value.int .u64 1 = Value.int .u64 (pallO O (List.take x l)) ∧ Value.int .i64 0 = Value.int .i64 (iOf x) ∧ Value.int .i64 (iOf l.length) = Value.int
  .i64 (iOf l.length) ∧ True) ∧ EqI l l ∧ True) ∧ ∀ (x : Nat), x ≤ l.length → If (iLt (iOf x) (iOf (Cont.ints .u64 l).n)) (If (iLe 0 (iOf x) && (iOf x).toNat.blt l.length) (If (true
  && Nat.beq 1 1 && (iOf x).toNat.blt l.length) (If (inU (l.getD (iOf x).toNat 0) 18446744073709551616) (If (inU (pallO O (List.take x l)) 18446744073709551616 && inU (O.ptaken
  (l.getD (iOf x).toNat 0)) 18446744073709551616) (∃ (x' : Nat), x' ≤ l.length ∧ (nSub l.length x').succ ≤ nSub l.length x ∧ (Value.int .u64 (O.pt (pallO O (List.take x l)) (O.ptaken
  (l.getD (iOf x).toNat 0))) = Value.int .u64 (pallO O (List.take x' l)) ∧ Value.int .i64 (IntKind.i64.wrap (iAdd (iOf x) 1)) = Value.int .i64 (iOf x') ∧ Value.int .i64 (iOf l.length)
  = Value.int .i64 (iOf l.length) ∧ True) ∧ EqI l l ∧ True) False) False) False) False) (Value.int .u64 (pallO O (List.take x l)) = Value.int .u64 out ∧ True) := by
 simp only [Sx.app, Sx.nAdd, Sx.nSub, Sx.nMul, Sx.nPow, Sx.nDiv, Sx.nMod, Sx.iAdd, Sx.iSub, Sx.iMul, Sx.iNeg, Sx.iPow, Sx.iOf, Int.toNat_natCast]
 have hi : ∀ x, x < l.length → inU (l.getD x 0) 18446744073709551616 = true := fun x hx => by
  rw [List.getD_eq_getElem?_getD, List.getElem?_eq_getElem hx]
  exact List.all_eq_true.1 hl _ (List.getElem_mem hx)
 have hp : ∀ x, x ≤ l.length → inU (pallO O (l.take x)) 18446744073709551616 = true := fun x hx => by
  cases x with
  | zero => rfl
  | succ x => rw [pallO_snoc O l hx]; exact hr _ _
 refine ⟨⟨0, Nat.zero_le _, ⟨rfl, rfl, (by first | rfl | trivial), trivial⟩, (by first | rfl | trivial), trivial⟩, fun x hx => Sx.if_both (fun h => ?_) (fun h => ?_)⟩
 ·simp only [Sx.Bz, Sx.Cont.n] at h
  have hlt : x < l.length := by omega
  have hbl : x.blt l.length = true := by rw [Nat.blt_eq]; exact hlt
  have wx : IntKind.i64.wrap ((x : Int) + 1) = ((x + 1 : Nat) : Int) := by rw [IntWalk.i64_in _ (by omega)]; omega
  refine Sx.if_true (by simp only [Sx.Bz, Sx.Cont.n, hbl, and_true]; omega) (Sx.if_true hbl (Sx.if_true (hi x hlt) (Sx.if_true (by rw [hp x hx, ht]; rfl) ⟨x + 1, hlt, by omega, ⟨by rw [pallO_snoc O l hlt], by rw [wx], (by first | rfl | trivial), trivial⟩, (by first | rfl | trivial), trivial⟩)))
 ·simp only [Sx.Bz, Sx.Cont.n] at h
  have hx2 : x = l.length := by omega
  subst hx2
  rw [List.take_of_length_le (Nat.le_refl _), ho]
  exact ⟨rfl, trivial⟩
theorem wpc_pall (O : OO) (l : List Int) (out : Int) (hl : inUs 18446744073709551616 l = true) (hr : ∀ o a, inU (O.pt o a) 18446744073709551616 = true) (ht : ∀ a, inU (O.ptaken a) 18446744073709551616 = true) (hm : l.length ≤ 9223372036854775807) (ho : out = pallO O l) : wpc Tryz.prog (spW O) Tryz.f26.ntmps (anAll O l) (bodyOf Tryz.f26) 0 64 (envA [.ro .u64] [.ints l] 0) (memA [.ro .u64] [.ints l] 0) (retG Tryz.prog Tryz.f26.results.toList [.v (.int .u64 out)]) :=
 Eq.mpr (by kernel_rfl) (vc_pall O l out hl hr ht hm ho)
def g_tagO (O : OO) (xs : List Arg) : Option (Bool × List Ret) := match xs with
 | [.v (.string s), .rows ps] => some (Nat.ble (tagN s.size ps) 1099511627776, [.v (HV (O.tag s ps))])
 | _ => none
def g_LongO (O : OO) (xs : List Arg) : Option (Bool × List Ret) := match xs with
 | [.v (.int .u64 n)] => some (true, [.ints 5 .u8 (O.be8 n)])
 | _ => none
def g_sumO (O : OO) (xs : List Arg) : Option (Bool × List Ret) := match xs with
 | [.ints l] => some (Nat.ble l.length 1099511627776, [.v (HV (O.sum l))])
 | _ => none
theorem ok_rSum4 (I : Sx.Interp) (O : OO) (hO : O = oo) : Sx.SpecOK I Tryz.prog 96 (gspec [.ro .u8] (g_sumO O)) := by
 subst hO; rw [show g_sumO oo = g_sum os by kernel_rfl]; exact ok_rsum I os rfl
theorem ok_rTag4 (I : Sx.Interp) (O : OO) (hO : O = oo) : Sx.SpecOK I Tryz.prog 74 (gspec [.v, .ros] (g_tagO O)) := by
 subst hO; rw [show g_tagO oo = g_tag os by kernel_rfl]; exact ok_rtag I os rfl
theorem ok_rLong4 (I : Sx.Interp) (O : OO) (hO : O = oo) : Sx.SpecOK I Tryz.prog 95 (gspec [.v] (g_LongO O)) := by
 subst hO; rw [show g_LongO oo = g_Long os by kernel_rfl]; exact ok_Long I os rfl
theorem ok_All (I : Sx.Interp) (O : OO) (hO : O = oo) : Sx.SpecOK I Tryz.prog 26 (gspec [.ro .u64] (g_All O)) := by
 refine spec_genA (spW_ok I O hO) (by kernel_rfl) (fun xs => match xs with | [.ints l] => anAll O l | _ => []) Tryz.func26 (by kernel_rfl) (by kernel_rfl) rfl Tryz.ntmps26 (by decide) ?_ ?_
 ·intro xs p rs h; unfold g_All at h; split at h <;> first | (simp only [Option.some.injEq, Prod.mk.injEq] at h; rw [← h.2]; simp) | cases h
 ·intro xs rs hl h
  unfold g_All at h
  split at h
  ·rename_i l
   simp only [Option.some.injEq, Prod.mk.injEq, Bool.and_eq_true] at h
   obtain ⟨⟨hc, hm⟩, rfl⟩ := h
   exact wpc_pall O l _ hc (by subst hO; intro o a; exact inU_of (by have := pt_lt o.toNat a.toNat; omega)) (by subst hO; intro a; exact inU_of (by have := taken_lt a.toNat; omega)) (Nat.le_of_ble_eq_true hm) (by subst hO; rfl)
  ·cases h
end Go.Proofs.YtcdmmfelagbpdaaGreat
