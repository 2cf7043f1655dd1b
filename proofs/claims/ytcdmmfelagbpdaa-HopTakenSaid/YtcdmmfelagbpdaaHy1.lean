/- Law 33: the contracts, for the symbolic machine (printed by genhx1.py). -/
import Derived.Test.YtcdmmfelagbpdaaHo8
import Derived.Test.YtcdmmfelagbpdaaHoC
import Derived.Test.YtcdmmfelagbpdaaHoD
import Derived.Test.YtcdmmfelagbpdaaSy
namespace Go.Proofs.Ytcdmmfelagbpdaa.H33
open Go.RowKit Go.Lib Ckp Cfd Cpd Sx
set_option linter.unusedVariables false
set_option linter.unusedSimpArgs false
theorem nxtCs_b (ok : Bool) (a e : Int) (q : Nat) : nxtCs ok a e q = #[.int .i64 0, .int .i64 0, .int .i64 (bif ok then a else 0), .int .u64 (bif ok then (q : Int) else 0), .int .i64 (bif ok then e else 0)] := by cases ok <;> rfl
theorem next_anyb (n c a e xf xi xa xe b p d l m h j r nap : Int) (q bl xq : Nat) (hq : q < 18446744073709551616) (hxq : xq < 18446744073709551616) (hp : p ≤ 9223372036854775807) (w : World) : Calls Try.prog 30 #[HvH n c a e q bl, QV xf xi xa xq xe, PV b p d l m, .int .i64 h, BV j r nap] w fun e' w' => e' = .returned (.tuple #[.agg #[.int .i64 0, .int .i64 0, .int .i64 (bif (next n c a e q bl xa xe xq b p d l m h j r nap).1 then a else 0), .int .u64 (bif (next n c a e q bl xa xe xq b p d l m h j r nap).1 then (q : Int) else 0), .int .i64 (bif (next n c a e q bl xa xe xq b p d l m h j r nap).1 then e else 0)], .int .i64 (next n c a e q bl xa xe xq b p d l m h j r nap).2]) ∧ Kp w w' := by
 have := next_any n c a e xf xi xa xe b p d l m h j r nap q bl xq hq hxq hp w
 rw [nxtCs_b] at this
 exact this
theorem rnext_anyb (n c a e xf xi xa xe b p d l m h j r nap : Int) (q bl xq : Nat) (hp : p ≤ 9223372036854775807) (w : World) : Calls Try.prog 31 #[HvH n c a e q bl, QV xf xi xa xq xe, PV b p d l m, .int .i64 h, BV j r nap] w fun e' w' => e' = .returned (.tuple #[.agg #[.int .i64 0, .int .i64 0, .int .i64 (bif (next n c a e q bl xa xe xq b p d l m h j r nap).1 then a else 0), .int .u64 (bif (next n c a e q bl xa xe xq b p d l m h j r nap).1 then (q : Int) else 0), .int .i64 (bif (next n c a e q bl xa xe xq b p d l m h j r nap).1 then e else 0)], .int .i64 (next n c a e q bl xa xe xq b p d l m h j r nap).2]) ∧ Kp w w' := by
 have := rnext_any n c a e xf xi xa xe b p d l m h j r nap q bl xq hp w
 rw [nxtCs_b] at this
 exact this
structure O33 where
 hfee : Int → Int → Int → Int → Int → Int → Int × Bool
 hright : Int → Int → Int → Int → Int → Bool
 may : Int → Int → Int → Int → Int → Int → Int → Int → Int → Int → Int → Int → Int → Int → Int → Int
 last : Int → Int → Int → Int → Int → Int → Int → Int → Int → Int → Int → Int → Int
 next : Int → Int → Int → Int → Int → Int → Int → Int → Int → Int → Int → Int → Int → Int → Int → Int → Int → Int → Bool × Int
 tadd : Int → Int → Int × Bool
 pbase : Int → Int
 padd : Int → Int → Int
 shows : Int → Int → Bool
 back : Int → Int → Int
def o33 : O33 := ⟨hfee, hright, fun xa xe xq ya ye yq b p d l m h j r nap => may xa xe xq.toNat ya ye yq.toNat b p d l m h j r nap, fun n a e q bl xa xe xq h j r nap => last n a e q.toNat bl.toNat xa xe xq.toNat h j r nap, fun n c a e q bl xa xe xq b p d l m h j r nap => next n c a e q.toNat bl.toNat xa xe xq.toNat b p d l m h j r nap, tadd, fun k => ((pbase k.toNat : Nat) : Int), fun x y => ((padd x.toNat y.toNat : Nat) : Int), fun q t => pright q.toNat && decide (pbase t.toNat = q.toNat), fun t x => ((psum [t.toNat, x.toNat] : Nat) : Int)⟩
def g_hFee (O : O33) (l : List Value) : Option (Bool × Value) := match l with
 | [.agg ⟨[.int .i64 b, .int .i64 p, .int .i64 d, .int .i64 l, .int .i64 m]⟩, .int .i64 a] => some ((decide (p ≤ 9223372036854775807)), .tuple #[.int .i64 (O.hfee b p d l m a).1, .bool (O.hfee b p d l m a).2])
 | _ => none
theorem ok_hFee (I : Sx.Interp) (O : O33) (hO : O = o33) : Sx.SpecOK I Try.prog 28 (Sx.vspec (g_hFee O)) := by
 subst hO
 refine Sx.spec_of_calls Try.func28 (by kernel_rfl) (by kernel_rfl) ?_
 intro l v hg w
 unfold g_hFee at hg
 split at hg
 ·rename_i b p d l m a
  simp only [Option.some.injEq, Prod.mk.injEq, Bool.and_eq_true, true_and] at hg
  obtain ⟨hc, rfl⟩ := hg
  have h0 := hc
  have p0 := of_decide_eq_true h0
  exact Sx.fr_kp (hFee_any b p d l m a p0 w)
 ·cases hg
def g_rFee (O : O33) (l : List Value) : Option (Bool × Value) := match l with
 | [.agg ⟨[.int .i64 b, .int .i64 p, .int .i64 d, .int .i64 l, .int .i64 m]⟩, .int .i64 a] => some ((decide (p ≤ 9223372036854775807)), .tuple #[.int .i64 (O.hfee b p d l m a).1, .bool (O.hfee b p d l m a).2])
 | _ => none
theorem ok_rFee (I : Sx.Interp) (O : O33) (hO : O = o33) : Sx.SpecOK I Try.prog 29 (Sx.vspec (g_rFee O)) := by
 subst hO
 refine Sx.spec_of_calls Try.func29 (by kernel_rfl) (by kernel_rfl) ?_
 intro l v hg w
 unfold g_rFee at hg
 split at hg
 ·rename_i b p d l m a
  simp only [Option.some.injEq, Prod.mk.injEq, Bool.and_eq_true, true_and] at hg
  obtain ⟨hc, rfl⟩ := hg
  have h0 := hc
  have p0 := of_decide_eq_true h0
  exact Sx.fr_kp (rhFee_any b p d l m a p0 w)
 ·cases hg
def g_hRight (O : O33) (l : List Value) : Option (Bool × Value) := match l with
 | [.agg ⟨[.int .i64 b, .int .i64 p, .int .i64 d, .int .i64 l, .int .i64 m]⟩] => some (true, .bool (O.hright b p d l m))
 | _ => none
theorem ok_hRight (I : Sx.Interp) (O : O33) (hO : O = o33) : Sx.SpecOK I Try.prog 32 (Sx.vspec (g_hRight O)) := by
 subst hO
 refine Sx.spec_of_calls Try.func32 (by kernel_rfl) (by kernel_rfl) ?_
 intro l v hg w
 unfold g_hRight at hg
 split at hg
 ·rename_i b p d l m
  simp only [Option.some.injEq, Prod.mk.injEq, Bool.and_eq_true, true_and] at hg
  subst hg
  exact Sx.fr_kp (hRight_any b p d l m w)
 ·cases hg
def g_rRight (O : O33) (l : List Value) : Option (Bool × Value) := match l with
 | [.agg ⟨[.int .i64 b, .int .i64 p, .int .i64 d, .int .i64 l, .int .i64 m]⟩] => some (true, .bool (O.hright b p d l m))
 | _ => none
theorem ok_rRight (I : Sx.Interp) (O : O33) (hO : O = o33) : Sx.SpecOK I Try.prog 33 (Sx.vspec (g_rRight O)) := by
 subst hO
 refine Sx.spec_of_calls Try.func33 (by kernel_rfl) (by kernel_rfl) ?_
 intro l v hg w
 unfold g_rRight at hg
 split at hg
 ·rename_i b p d l m
  simp only [Option.some.injEq, Prod.mk.injEq, Bool.and_eq_true, true_and] at hg
  subst hg
  exact Sx.fr_kp (rhRight_any b p d l m w)
 ·cases hg
def g_hMay (O : O33) (l : List Value) : Option (Bool × Value) := match l with
 | [.agg ⟨[.int .i64 xf, .int .i64 xi, .int .i64 xa, .int .u64 xq, .int .i64 xe]⟩, .agg ⟨[.int .i64 yf, .int .i64 yi, .int .i64 ya, .int .u64 yq, .int .i64 ye]⟩, .agg ⟨[.int .i64 b, .int .i64 p, .int .i64 d, .int .i64 l, .int .i64 m]⟩, .int .i64 h, .agg ⟨[.int .i64 j, .int .i64 r, .int .i64 nap]⟩] => some ((inU xq 18446744073709551616) && (inU yq 18446744073709551616) && (decide (p ≤ 9223372036854775807)), .int .i64 (O.may xa xe xq ya ye yq b p d l m h j r nap))
 | _ => none
theorem ok_hMay (I : Sx.Interp) (O : O33) (hO : O = o33) : Sx.SpecOK I Try.prog 34 (Sx.vspec (g_hMay O)) := by
 subst hO
 refine Sx.spec_of_calls Try.func34 (by kernel_rfl) (by kernel_rfl) ?_
 intro l v hg w
 unfold g_hMay at hg
 split at hg
 ·rename_i xf xi xa xq xe yf yi ya yq ye b p d l m h j r nap
  simp only [Option.some.injEq, Prod.mk.injEq, Bool.and_eq_true, true_and] at hg
  obtain ⟨hc, rfl⟩ := hg
  obtain ⟨⟨h0, h1⟩, h2⟩ := hc
  obtain ⟨n_xq, rfl, l0⟩ := inU_nat h0
  obtain ⟨n_yq, rfl, l1⟩ := inU_nat h1
  have p0 := of_decide_eq_true h2
  simp only [o33, Int.toNat_natCast]
  exact Sx.fr_kp (may_any xf xi xa xe yf yi ya ye b p d l m h j r nap n_xq n_yq l0 l1 p0 w)
 ·cases hg
def g_rMay (O : O33) (l : List Value) : Option (Bool × Value) := match l with
 | [.agg ⟨[.int .i64 xf, .int .i64 xi, .int .i64 xa, .int .u64 xq, .int .i64 xe]⟩, .agg ⟨[.int .i64 yf, .int .i64 yi, .int .i64 ya, .int .u64 yq, .int .i64 ye]⟩, .agg ⟨[.int .i64 b, .int .i64 p, .int .i64 d, .int .i64 l, .int .i64 m]⟩, .int .i64 h, .agg ⟨[.int .i64 j, .int .i64 r, .int .i64 nap]⟩] => some ((inU xq 18446744073709551616) && (inU yq 18446744073709551616) && (decide (p ≤ 9223372036854775807)), .int .i64 (O.may xa xe xq ya ye yq b p d l m h j r nap))
 | _ => none
theorem ok_rMay (I : Sx.Interp) (O : O33) (hO : O = o33) : Sx.SpecOK I Try.prog 35 (Sx.vspec (g_rMay O)) := by
 subst hO
 refine Sx.spec_of_calls Try.func35 (by kernel_rfl) (by kernel_rfl) ?_
 intro l v hg w
 unfold g_rMay at hg
 split at hg
 ·rename_i xf xi xa xq xe yf yi ya yq ye b p d l m h j r nap
  simp only [Option.some.injEq, Prod.mk.injEq, Bool.and_eq_true, true_and] at hg
  obtain ⟨hc, rfl⟩ := hg
  obtain ⟨⟨h0, h1⟩, h2⟩ := hc
  obtain ⟨n_xq, rfl, l0⟩ := inU_nat h0
  obtain ⟨n_yq, rfl, l1⟩ := inU_nat h1
  have p0 := of_decide_eq_true h2
  simp only [o33, Int.toNat_natCast]
  exact Sx.fr_kp (rmay_any xf xi xa xe yf yi ya ye b p d l m h j r nap n_xq n_yq p0 w)
 ·cases hg
def g_hLast (O : O33) (l : List Value) : Option (Bool × Value) := match l with
 | [.agg ⟨[.int .i64 n, .int .i64 c, .int .i64 a, .int .i64 e, .int .u64 q, .int .u64 bl]⟩, .agg ⟨[.int .i64 xf, .int .i64 xi, .int .i64 xa, .int .u64 xq, .int .i64 xe]⟩, .int .i64 h, .agg ⟨[.int .i64 j, .int .i64 r, .int .i64 nap]⟩] => some ((inU q 18446744073709551616) && (inU bl 18446744073709551616) && (inU xq 18446744073709551616), .int .i64 (O.last n a e q bl xa xe xq h j r nap))
 | _ => none
theorem ok_hLast (I : Sx.Interp) (O : O33) (hO : O = o33) : Sx.SpecOK I Try.prog 36 (Sx.vspec (g_hLast O)) := by
 subst hO
 refine Sx.spec_of_calls Try.func36 (by kernel_rfl) (by kernel_rfl) ?_
 intro l v hg w
 unfold g_hLast at hg
 split at hg
 ·rename_i n c a e q bl xf xi xa xq xe h j r nap
  simp only [Option.some.injEq, Prod.mk.injEq, Bool.and_eq_true, true_and] at hg
  obtain ⟨hc, rfl⟩ := hg
  obtain ⟨⟨h0, h1⟩, h2⟩ := hc
  obtain ⟨n_q, rfl, l0⟩ := inU_nat h0
  obtain ⟨n_bl, rfl, l1⟩ := inU_nat h1
  obtain ⟨n_xq, rfl, l2⟩ := inU_nat h2
  simp only [o33, Int.toNat_natCast]
  exact Sx.fr_kp (last_any n c a e xf xi xa xe h j r nap n_q n_bl n_xq l0 l2 w)
 ·cases hg
def g_rLast (O : O33) (l : List Value) : Option (Bool × Value) := match l with
 | [.agg ⟨[.int .i64 n, .int .i64 c, .int .i64 a, .int .i64 e, .int .u64 q, .int .u64 bl]⟩, .agg ⟨[.int .i64 xf, .int .i64 xi, .int .i64 xa, .int .u64 xq, .int .i64 xe]⟩, .int .i64 h, .agg ⟨[.int .i64 j, .int .i64 r, .int .i64 nap]⟩] => some ((inU q 18446744073709551616) && (inU bl 18446744073709551616) && (inU xq 18446744073709551616), .int .i64 (O.last n a e q bl xa xe xq h j r nap))
 | _ => none
theorem ok_rLast (I : Sx.Interp) (O : O33) (hO : O = o33) : Sx.SpecOK I Try.prog 37 (Sx.vspec (g_rLast O)) := by
 subst hO
 refine Sx.spec_of_calls Try.func37 (by kernel_rfl) (by kernel_rfl) ?_
 intro l v hg w
 unfold g_rLast at hg
 split at hg
 ·rename_i n c a e q bl xf xi xa xq xe h j r nap
  simp only [Option.some.injEq, Prod.mk.injEq, Bool.and_eq_true, true_and] at hg
  obtain ⟨hc, rfl⟩ := hg
  obtain ⟨⟨h0, h1⟩, h2⟩ := hc
  obtain ⟨n_q, rfl, l0⟩ := inU_nat h0
  obtain ⟨n_bl, rfl, l1⟩ := inU_nat h1
  obtain ⟨n_xq, rfl, l2⟩ := inU_nat h2
  simp only [o33, Int.toNat_natCast]
  exact Sx.fr_kp (rlast_any n c a e xf xi xa xe h j r nap n_q n_bl n_xq w)
 ·cases hg
def g_hNext (O : O33) (l : List Value) : Option (Bool × Value) := match l with
 | [.agg ⟨[.int .i64 n, .int .i64 c, .int .i64 a, .int .i64 e, .int .u64 q, .int .u64 bl]⟩, .agg ⟨[.int .i64 xf, .int .i64 xi, .int .i64 xa, .int .u64 xq, .int .i64 xe]⟩, .agg ⟨[.int .i64 b, .int .i64 p, .int .i64 d, .int .i64 l, .int .i64 m]⟩, .int .i64 h, .agg ⟨[.int .i64 j, .int .i64 r, .int .i64 nap]⟩] => some ((inU q 18446744073709551616) && (inU bl 18446744073709551616) && (inU xq 18446744073709551616) && (decide (p ≤ 9223372036854775807)), .tuple #[.agg #[.int .i64 0, .int .i64 0, .int .i64 (bif (O.next n c a e q bl xa xe xq b p d l m h j r nap).1 then a else 0), .int .u64 (bif (O.next n c a e q bl xa xe xq b p d l m h j r nap).1 then q else 0), .int .i64 (bif (O.next n c a e q bl xa xe xq b p d l m h j r nap).1 then e else 0)], .int .i64 (O.next n c a e q bl xa xe xq b p d l m h j r nap).2])
 | _ => none
theorem ok_hNext (I : Sx.Interp) (O : O33) (hO : O = o33) : Sx.SpecOK I Try.prog 30 (Sx.vspec (g_hNext O)) := by
 subst hO
 refine Sx.spec_of_calls Try.func30 (by kernel_rfl) (by kernel_rfl) ?_
 intro l v hg w
 unfold g_hNext at hg
 split at hg
 ·rename_i n c a e q bl xf xi xa xq xe b p d l m h j r nap
  simp only [Option.some.injEq, Prod.mk.injEq, Bool.and_eq_true, true_and] at hg
  obtain ⟨hc, rfl⟩ := hg
  obtain ⟨⟨⟨h0, h1⟩, h2⟩, h3⟩ := hc
  obtain ⟨n_q, rfl, l0⟩ := inU_nat h0
  obtain ⟨n_bl, rfl, l1⟩ := inU_nat h1
  obtain ⟨n_xq, rfl, l2⟩ := inU_nat h2
  have p0 := of_decide_eq_true h3
  simp only [o33, Int.toNat_natCast]
  exact Sx.fr_kp (next_anyb n c a e xf xi xa xe b p d l m h j r nap n_q n_bl n_xq l0 l2 p0 w)
 ·cases hg
def g_rNext (O : O33) (l : List Value) : Option (Bool × Value) := match l with
 | [.agg ⟨[.int .i64 n, .int .i64 c, .int .i64 a, .int .i64 e, .int .u64 q, .int .u64 bl]⟩, .agg ⟨[.int .i64 xf, .int .i64 xi, .int .i64 xa, .int .u64 xq, .int .i64 xe]⟩, .agg ⟨[.int .i64 b, .int .i64 p, .int .i64 d, .int .i64 l, .int .i64 m]⟩, .int .i64 h, .agg ⟨[.int .i64 j, .int .i64 r, .int .i64 nap]⟩] => some ((inU q 18446744073709551616) && (inU bl 18446744073709551616) && (inU xq 18446744073709551616) && (decide (p ≤ 9223372036854775807)), .tuple #[.agg #[.int .i64 0, .int .i64 0, .int .i64 (bif (O.next n c a e q bl xa xe xq b p d l m h j r nap).1 then a else 0), .int .u64 (bif (O.next n c a e q bl xa xe xq b p d l m h j r nap).1 then q else 0), .int .i64 (bif (O.next n c a e q bl xa xe xq b p d l m h j r nap).1 then e else 0)], .int .i64 (O.next n c a e q bl xa xe xq b p d l m h j r nap).2])
 | _ => none
theorem ok_rNext (I : Sx.Interp) (O : O33) (hO : O = o33) : Sx.SpecOK I Try.prog 31 (Sx.vspec (g_rNext O)) := by
 subst hO
 refine Sx.spec_of_calls Try.func31 (by kernel_rfl) (by kernel_rfl) ?_
 intro l v hg w
 unfold g_rNext at hg
 split at hg
 ·rename_i n c a e q bl xf xi xa xq xe b p d l m h j r nap
  simp only [Option.some.injEq, Prod.mk.injEq, Bool.and_eq_true, true_and] at hg
  obtain ⟨hc, rfl⟩ := hg
  obtain ⟨⟨⟨h0, h1⟩, h2⟩, h3⟩ := hc
  obtain ⟨n_q, rfl, l0⟩ := inU_nat h0
  obtain ⟨n_bl, rfl, l1⟩ := inU_nat h1
  obtain ⟨n_xq, rfl, l2⟩ := inU_nat h2
  have p0 := of_decide_eq_true h3
  simp only [o33, Int.toNat_natCast]
  exact Sx.fr_kp (rnext_anyb n c a e xf xi xa xe b p d l m h j r nap n_q n_bl n_xq p0 w)
 ·cases hg
def g_nAdd (O : O33) (l : List Value) : Option (Bool × Value) := match l with
 | [.int .i64 x, .int .i64 y] => some (true, .tuple #[.int .i64 (O.tadd x y).1, .bool (O.tadd x y).2])
 | _ => none
theorem ok_nAdd (I : Sx.Interp) (O : O33) (hO : O = o33) : Sx.SpecOK I Try.prog 38 (Sx.vspec (g_nAdd O)) := by
 subst hO
 refine Sx.spec_of_calls Try.func38 (by kernel_rfl) (by kernel_rfl) ?_
 intro l v hg w
 unfold g_nAdd at hg
 split at hg
 ·rename_i x y
  simp only [Option.some.injEq, Prod.mk.injEq, Bool.and_eq_true, true_and] at hg
  subst hg
  exact Sx.fr_eq (tadd_any x y w)
 ·cases hg
def g_pBase (O : O33) (l : List Value) : Option (Bool × Value) := match l with
 | [.int .u64 k] => some ((inU k 18446744073709551616), .int .u64 (O.pbase k))
 | _ => none
theorem ok_pBase (I : Sx.Interp) (O : O33) (hO : O = o33) : Sx.SpecOK I Try.prog 39 (Sx.vspec (g_pBase O)) := by
 subst hO
 refine Sx.spec_of_calls Try.func39 (by kernel_rfl) (by kernel_rfl) ?_
 intro l v hg w
 unfold g_pBase at hg
 split at hg
 ·rename_i k
  simp only [Option.some.injEq, Prod.mk.injEq, Bool.and_eq_true, true_and] at hg
  obtain ⟨hc, rfl⟩ := hg
  have h0 := hc
  obtain ⟨n_k, rfl, l0⟩ := inU_nat h0
  simp only [o33, Int.toNat_natCast]
  exact Sx.fr_dn (pbase_any n_k w)
 ·cases hg
def g_pAdd (O : O33) (l : List Value) : Option (Bool × Value) := match l with
 | [.int .u64 x, .int .u64 y] => some ((inU x 18446744073709551616) && (inU y 18446744073709551616), .int .u64 (O.padd x y))
 | _ => none
theorem ok_pAdd (I : Sx.Interp) (O : O33) (hO : O = o33) : Sx.SpecOK I Try.prog 42 (Sx.vspec (g_pAdd O)) := by
 subst hO
 refine Sx.spec_of_calls Try.func42 (by kernel_rfl) (by kernel_rfl) ?_
 intro l v hg w
 unfold g_pAdd at hg
 split at hg
 ·rename_i x y
  simp only [Option.some.injEq, Prod.mk.injEq, Bool.and_eq_true, true_and] at hg
  obtain ⟨hc, rfl⟩ := hg
  obtain ⟨h0, h1⟩ := hc
  obtain ⟨n_x, rfl, l0⟩ := inU_nat h0
  obtain ⟨n_y, rfl, l1⟩ := inU_nat h1
  simp only [o33, Int.toNat_natCast]
  exact Sx.fr_kp (padd_any n_x n_y l0 l1 w)
 ·cases hg
def g_pShows (O : O33) (l : List Value) : Option (Bool × Value) := match l with
 | [.int .u64 q, .int .u64 t] => some ((inU q 18446744073709551616) && (inU t 18446744073709551616), .bool (O.shows q t))
 | _ => none
theorem ok_pShows (I : Sx.Interp) (O : O33) (hO : O = o33) : Sx.SpecOK I Try.prog 40 (Sx.vspec (g_pShows O)) := by
 subst hO
 refine Sx.spec_of_calls Try.func40 (by kernel_rfl) (by kernel_rfl) ?_
 intro l v hg w
 unfold g_pShows at hg
 split at hg
 ·rename_i q t
  simp only [Option.some.injEq, Prod.mk.injEq, Bool.and_eq_true, true_and] at hg
  obtain ⟨hc, rfl⟩ := hg
  obtain ⟨h0, h1⟩ := hc
  obtain ⟨n_q, rfl, l0⟩ := inU_nat h0
  obtain ⟨n_t, rfl, l1⟩ := inU_nat h1
  simp only [o33, Int.toNat_natCast]
  exact Sx.fr_kp (shows_any n_q n_t l0 w)
 ·cases hg
def g_pBack (O : O33) (l : List Value) : Option (Bool × Value) := match l with
 | [.int .u64 t, .int .u64 x] => some ((inU t 18446744073709551616) && (inU x 18446744073709551616), .int .u64 (O.back t x))
 | _ => none
theorem ok_pBack (I : Sx.Interp) (O : O33) (hO : O = o33) : Sx.SpecOK I Try.prog 41 (Sx.vspec (g_pBack O)) := by
 subst hO
 refine Sx.spec_of_calls Try.func41 (by kernel_rfl) (by kernel_rfl) ?_
 intro l v hg w
 unfold g_pBack at hg
 split at hg
 ·rename_i t x
  simp only [Option.some.injEq, Prod.mk.injEq, Bool.and_eq_true, true_and] at hg
  obtain ⟨hc, rfl⟩ := hg
  obtain ⟨h0, h1⟩ := hc
  obtain ⟨n_t, rfl, l0⟩ := inU_nat h0
  obtain ⟨n_x, rfl, l1⟩ := inU_nat h1
  simp only [o33, Int.toNat_natCast]
  exact Sx.fr_kp (back_any n_t n_x w)
 ·cases hg
def sp33 (O : O33) (f : FuncId) : Option Sx.Spec := match f with
 | 28 => some (Sx.vspec (g_hFee O))
 | 29 => some (Sx.vspec (g_rFee O))
 | 32 => some (Sx.vspec (g_hRight O))
 | 33 => some (Sx.vspec (g_rRight O))
 | 34 => some (Sx.vspec (g_hMay O))
 | 35 => some (Sx.vspec (g_rMay O))
 | 36 => some (Sx.vspec (g_hLast O))
 | 37 => some (Sx.vspec (g_rLast O))
 | 30 => some (Sx.vspec (g_hNext O))
 | 31 => some (Sx.vspec (g_rNext O))
 | 38 => some (Sx.vspec (g_nAdd O))
 | 39 => some (Sx.vspec (g_pBase O))
 | 42 => some (Sx.vspec (g_pAdd O))
 | 40 => some (Sx.vspec (g_pShows O))
 | 41 => some (Sx.vspec (g_pBack O))
 | _ => none
theorem sp33_ok (I : Sx.Interp) (O : O33) (hO : O = o33) : ∀ f s, sp33 O f = some s → Sx.SpecOK I Try.prog f s := by
 intro f s h
 unfold sp33 at h
 split at h
 ·cases h; exact ok_hFee I O hO
 ·cases h; exact ok_rFee I O hO
 ·cases h; exact ok_hRight I O hO
 ·cases h; exact ok_rRight I O hO
 ·cases h; exact ok_hMay I O hO
 ·cases h; exact ok_rMay I O hO
 ·cases h; exact ok_hLast I O hO
 ·cases h; exact ok_rLast I O hO
 ·cases h; exact ok_hNext I O hO
 ·cases h; exact ok_rNext I O hO
 ·cases h; exact ok_nAdd I O hO
 ·cases h; exact ok_pBase I O hO
 ·cases h; exact ok_pAdd I O hO
 ·cases h; exact ok_pShows I O hO
 ·cases h; exact ok_pBack I O hO
 ·cases h

end Go.Proofs.Ytcdmmfelagbpdaa.H33
