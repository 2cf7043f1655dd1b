/- Contracts of math/bits: Mul64, and Rem64 by a divisor whose leading zeros are known: over this seat's translation. -/
import Derived.Test.YtaohpdhhbnempaaChecked
import Derived.WalkKit
import Derived.RegionTactic
import Derived.Deep.DeepCutAuto
import Derived.Deep.CutBlock
import Derived.Deep.QuietTactic
import Derived.BigQuiet
import Derived.ChangeAlike
import Derived.Lib.Hide
import Derived.Outline
import Derived.Lib.Mul64
import Derived.Laws.Bits64b
import Derived.Test.YtaohpdhhbnempaaDv
namespace Go.Proofs.Ytaohpdhhbnempaa
open Go.RowKit Go.Lib
set_option linter.unusedVariables false

namespace Mul64
theorem maskN (a : Nat) (ha : a < 18446744073709551616) : bits .and .u64 (a : Int) 4294967295 = ((a % 4294967296 : Nat) : Int) := by
 have h := bits_and_u64_nat a 4294967295 ha (by omega)
 have e : a &&& 4294967295 = a % 4294967296 := Nat.and_two_pow_sub_one_eq_mod a 32
 rw [e] at h
 exact h
theorem divN (a : Nat) : (a : Int) / 4294967296 = ((a / 4294967296 : Nat) : Int) := by omega
theorem mulN (a b : Nat) : (a : Int) * (b : Int) = ((a * b : Nat) : Int) := (Int.natCast_mul a b).symm
theorem addN (a b : Nat) : (a : Int) + (b : Int) = ((a + b : Nat) : Int) := (Int.natCast_add a b).symm
theorem wrapN (a : Nat) (ha : a < 18446744073709551616) : IntKind.u64.wrap (a : Int) = (a : Int) := by rw [IntKind.wrap_u64]; omega
theorem wrapM (a : Nat) : IntKind.u64.wrap (a : Int) = ((a % 18446744073709551616 : Nat) : Int) := by rw [IntKind.wrap_u64]; omega
theorem orN (i a b : Nat) (hb : b < 2 ^ i) (hm : 2 ^ i * a + b < 18446744073709551616) : bits .or .u64 ((a * 2 ^ i : Nat) : Int) (b : Int) = ((a * 2 ^ i + b : Nat) : Int) := by
 rw [bits_or_u64_nat _ _ (by rw [Nat.mul_comm]; omega) (by have : 2 ^ i * a + b < 18446744073709551616 := hm; omega), Nat.mul_comm a, Nat.two_pow_add_eq_or_of_lt hb]
theorem quo_eq (u y : Nat) (hu : u < 18446744073709551616) (hy : 0 < y) : IntKind.u64.wrap ((u : Int).tdiv (y : Int)) = ((u / y : Nat) : Int) := by
 rw [← Int.ofNat_tdiv, wrapN _ (Nat.lt_of_le_of_lt (Nat.div_le_self _ _) hu)]
theorem rem_eq (u y : Nat) (hu : u < 18446744073709551616) (hy : 0 < y) : IntKind.u64.wrap ((u : Int) - IntKind.u64.wrap (((u / y : Nat) : Int) * (y : Int))) = ((u % y : Nat) : Int) := by
 have h := Nat.div_add_mod' u y
 have hl := Nat.mod_lt u hy
 rw [mulN, wrapN _ (by omega)]
 generalize u / y * y = t at *
 generalize u % y = z at *
 rw [IntKind.wrap_u64]
 omega
theorem num_eq (hi lo u l8 d1 d0 K R : Nat) (hK : K * R = 18446744073709551616) (hR : 0 < R) (hu : u = hi * K + lo / R) (hl : l8 = lo * K % 18446744073709551616) (h1 : d1 = l8 / 4294967296) (h0 : d0 = l8 % 4294967296) :
  (u * 4294967296 + d1) * 4294967296 + d0 = (hi * 18446744073709551616 + lo) * K := by
 have e1 : d1 * 4294967296 + d0 = l8 := by rw [h1, h0]; exact Nat.div_add_mod' _ _
 have e2 : lo * K / 18446744073709551616 = lo / R := by
  have hK0 : 0 < K := Nat.pos_of_ne_zero (by rintro rfl; simp at hK)
  rw [← hK, Nat.mul_comm lo K, Nat.mul_div_mul_left _ _ hK0]
 have e3 := Nat.div_add_mod' (lo * K) 18446744073709551616
 rw [e2, ← hl] at e3
 have e4 : (hi * 18446744073709551616 + lo) * K = hi * K * 18446744073709551616 + lo * K := by rw [Nat.add_mul, Nat.mul_right_comm]
 rw [e4, ← e3, hu]
 generalize hi * K = a at *
 generalize lo / R = b at *
 subst e1
 rw [Nat.add_mul, Nat.add_mul, Nat.add_mul, Nat.mul_assoc, Nat.mul_assoc]
 simp only [Nat.add_assoc, Nat.reduceMul]
theorem rest_eq (u d Q y K r : Nat) (k : Int) (hk : k = (K : Int)) (h : Q * (y * K) + r = u * 4294967296 + d) (hr : r < 18446744073709551616) :
  IntKind.u64.wrap (IntKind.u64.wrap (IntKind.u64.wrap ((u : Int) * 4294967296) + (d : Int)) - IntKind.u64.wrap ((Q : Int) * ((y : Int) * k))) = (r : Int) := by
 rw [hk, ← Int.natCast_mul y K, ← Int.natCast_mul Q]
 generalize Q * (y * K) = t at *
 simp only [IntKind.wrap_u64]
 omega
theorem fin (N y K u d1 d0 Q Z u2 Y : Nat) (hy : 0 < y) (hK : 0 < K) (hY : Y = y * K) (hN : (u * 4294967296 + d1) * 4294967296 + d0 = N * K) (hQ : Q = (u * 4294967296 + d1) / Y) (hu2 : u2 = (u * 4294967296 + d1) % Y) (hZ : Z = (u2 * 4294967296 + d0) / Y) :
  Q * 4294967296 + Z = N / y ∧ Z * (y * K) + N % y * K = u2 * 4294967296 + d0 := by
 have hYp : 0 < Y := by rw [hY]; exact Nat.mul_pos hy hK
 have e1 := Nat.div_add_mod' (u * 4294967296 + d1) Y
 rw [← hQ, ← hu2] at e1
 have e2 := Nat.div_add_mod' (u2 * 4294967296 + d0) Y
 rw [← hZ] at e2
 have hlt := Nat.mod_lt (u2 * 4294967296 + d0) hYp
 obtain ⟨r, hr⟩ : ∃ r, r = (u2 * 4294967296 + d0) % Y := ⟨_, rfl⟩
 rw [← hr] at e2 hlt
 have e3 : (Q * 4294967296 + Z) * Y + r = N * K := by
  rw [← hN, ← e1, Nat.add_mul, Nat.add_assoc, e2, Nat.add_mul, Nat.mul_right_comm, Nat.add_assoc]
 have e4 : N * K / Y = N / y := by rw [hY, Nat.mul_div_mul_right _ _ hK]
 have e5 : N * K % Y = N % y * K := by rw [hY, Nat.mul_mod_mul_right]
 have e6 : N * K / Y = Q * 4294967296 + Z := by
  rw [← e3, Nat.add_comm, Nat.add_mul_div_right _ _ hYp, Nat.div_eq_of_lt hlt, Nat.zero_add]
 have e7 : N * K % Y = r := by
  rw [← e3, Nat.add_comm, Nat.add_mul_mod_self_right, Nat.mod_eq_of_lt hlt]
 refine ⟨by rw [← e6, e4], ?_⟩
 rw [← e5, e7, ← hY, e2]
theorem last_eq (x k : Int) (r K : Nat) (h : x = ((r * K : Nat) : Int)) (hk : k = (K : Int)) (hK : 0 < K) : x / k = (r : Int) := by
 rw [h, hk, ← Int.natCast_ediv, Nat.mul_div_cancel _ hK]
theorem top_eq (Q Z q : Nat) (h : Q * 4294967296 + Z = q) (hq : q < 18446744073709551616) : IntKind.u64.wrap (IntKind.u64.wrap ((Q : Int) * 4294967296) + (Z : Int)) = (q : Int) := by
 simp only [IntKind.wrap_u64]
 omega
end Mul64
theorem ret_two {k l : IntKind} {a b a' b' : Int} (h1 : a = a') (h2 : b = b') : Ending.returned (.tuple #[.int k a, .int l b]) = Ending.returned (.tuple #[.int k a', .int l b']) := by rw [h1, h2]

set_option maxHeartbeats 1000000 in
theorem mul64_any (x y : Nat) (hx : x < 18446744073709551616) (hy : y < 18446744073709551616) (w : World) :
  Calls Try.prog 110 #[.int .u64 x, .int .u64 y] w fun e w' => e = .returned (.tuple #[.int .u64 ((x * y / 18446744073709551616 : Nat) : Int), .int .u64 ((x * y % 18446744073709551616 : Nat) : Int)]) ∧ w = w' := by
 obtain ⟨bd, bt, bw, hhi⟩ := Lib.mul64_hi x y hx hy
 have ba := Lib.half_mul_le (a := x / 4294967296) (b := y / 4294967296) (by omega) (by omega)
 have bb := Lib.half_mul_le (a := x / 4294967296) (b := y % 4294967296) (by omega) (by omega)
 have bc := Lib.half_mul_le (a := x % 4294967296) (b := y / 4294967296) (by omega) (by omega)
 have ba' : x / 4294967296 * (y / 4294967296) < 18446744073709551616 := by omega
 have bb' : x / 4294967296 * (y % 4294967296) < 18446744073709551616 := by omega
 have bc' : x % 4294967296 * (y / 4294967296) < 18446744073709551616 := by omega
 have bh1 : x / 4294967296 * (y / 4294967296) + (x / 4294967296 * (y % 4294967296) + x % 4294967296 * (y % 4294967296) / 4294967296) / 4294967296 < 18446744073709551616 := by omega
 have bh : x / 4294967296 * (y / 4294967296) + (x / 4294967296 * (y % 4294967296) + x % 4294967296 * (y % 4294967296) / 4294967296) / 4294967296 + ((x / 4294967296 * (y % 4294967296) + x % 4294967296 * (y % 4294967296) / 4294967296) % 4294967296 + x % 4294967296 * (y / 4294967296)) / 4294967296 < 18446744073709551616 := by omega
 go_enter Try.func110, Try.ntmps110
 go_wp2
 simp only [Mul64.maskN x hx, Mul64.maskN y hy, Mul64.divN, Mul64.mulN, Mul64.addN, Mul64.wrapN _ bd, Mul64.wrapN _ bb', Mul64.wrapN _ bt, Mul64.maskN _ bt, Mul64.wrapN _ bc', Mul64.wrapN _ bw, Mul64.wrapN _ ba', Mul64.wrapN _ bh1, Mul64.wrapN _ bh, Mul64.wrapM (x * y)]
 rw [hhi]
 go_ret2
 exact ⟨rfl, rfl⟩


set_option maxRecDepth 100000 in
theorem lz_p (w : World) : Calls Try.prog 113 #[.int .u64 4611686018427377339] w fun e w' => e = .returned (.int .i64 2) ∧ w = w' := by
 go_enter Try.func113, Try.ntmps113
 go_wp2
 go_ret
 exact ⟨by kernel_rfl, rfl⟩

set_option maxRecDepth 100000 in
theorem div64_0 (lo y : Nat) (hlo : lo < 18446744073709551616) (hy : 0 < y) (hy' : y < 18446744073709551616) (w : World) :
  Calls Try.prog 112 #[.int .u64 0, .int .u64 lo, .int .u64 y] w fun e w' => e = .returned (.tuple #[.int .u64 ((lo / y : Nat) : Int), .int .u64 ((lo % y : Nat) : Int)]) ∧ ∃ n, w' = w.drewN n := by
 have hy0 : ((y : Int) == 0) = false := by simp; omega
 have hh : ¬ ((y : Int) ≤ 0) := by omega
 go_enter Try.func112, Try.ntmps112
 go_wp2
 go_quiet (fail)
 go_wp2
 go_ret2
 exact ⟨ret_two (by rw [← Int.natCast_ediv, Mul64.wrapN _ (Nat.lt_of_le_of_lt (Nat.div_le_self _ _) hlo)]) (by omega), nq, rfl⟩

set_option maxRecDepth 100000 in
set_option maxHeartbeats 1000000 in
theorem div64_2 (hi lo y : Nat) (h0 : 0 < hi) (hlo : lo < 18446744073709551616) (hhi : hi < y) (hy : 2305843009213693952 ≤ y) (hy' : y < 4611686018427387904)
  (hlz : ∀ w, Calls Try.prog 113 #[.int .u64 y] w fun e w' => e = .returned (.int .i64 2) ∧ w = w') (w : World) :
  Calls Try.prog 112 #[.int .u64 hi, .int .u64 lo, .int .u64 y] w fun e w' => e = .returned (.tuple #[.int .u64 (((hi * 18446744073709551616 + lo) / y : Nat) : Int), .int .u64 (((hi * 18446744073709551616 + lo) % y : Nat) : Int)]) ∧ ∃ n, w' = w.drewN n := by
 have Hlz := Lib.hid hlz
 clear hlz
 have hyz : ((y : Int) == 0) = false := by simp; omega
 have h0' : ((hi : Int) == 0) = false := by simp; omega
 have hh : ¬ ((y : Int) ≤ hi) := by omega
 go_enter Try.func112, Try.ntmps112
 go_upto_block 0 with (go_at_call 113; refine (Hlz.out _).mono ?_; rintro e w' ⟨rfl, rfl⟩)
 obtain ⟨y1, hy1⟩ : ∃ y1, y1 = y * 4 / 4294967296 := ⟨_, rfl⟩
 obtain ⟨y0, hy0⟩ : ∃ y0, y0 = y * 4 % 4294967296 := ⟨_, rfl⟩
 obtain ⟨u, hu⟩ : ∃ u, u = hi * 4 + lo / 4611686018427387904 := ⟨_, rfl⟩
 obtain ⟨l8, hl8⟩ : ∃ l8, l8 = lo * 4 % 18446744073709551616 := ⟨_, rfl⟩
 obtain ⟨d1, hd1⟩ : ∃ d1, d1 = l8 / 4294967296 := ⟨_, rfl⟩
 obtain ⟨d0, hd0⟩ : ∃ d0, d0 = l8 % 4294967296 := ⟨_, rfl⟩
 have e9 : (y : Int) * 4 / 4294967296 = (y1 : Int) := by omega
 have e10 : bits BinOp.and IntKind.u64 ((y : Int) * 4) 4294967295 = (y0 : Int) := by
  have h := Mul64.maskN (y * 4) (by omega)
  rw [← hy0] at h
  rw [← h]; congr 1
 have e11 : bits BinOp.or IntKind.u64 ((hi : Int) * 4) ((lo : Int) / 4611686018427387904) = (u : Int) := by
  have h := Mul64.orN 2 hi (lo / 4611686018427387904) (by omega) (by omega)
  rw [hu, ← h]; congr 1
 have e12 : IntKind.u64.wrap ((lo : Int) * 4) = (l8 : Int) := by rw [IntKind.wrap_u64]; omega
 have e14 : bits BinOp.and IntKind.u64 (l8 : Int) 4294967295 = (d0 : Int) := by
  rw [Mul64.maskN _ (by omega), hd0]
 have e13 : (l8 : Int) / 4294967296 = (d1 : Int) := by omega
 have e15 := Mul64.quo_eq u y1 (by omega) (by omega)
 have e16 := Mul64.rem_eq u y1 (by omega) (by omega)
 simp only [e9, e10, e11, e12, e13, e14, e15, e16]
 have by1 : 2147483648 ≤ y1 := by omega
 have by1' : y1 < 4294967296 := by omega
 have by0 : y0 < 4294967296 := by omega
 have bu : u < y1 * 4294967296 + y0 := by omega
 have bd1 : d1 < 4294967296 := by omega
 have bd0 : d0 < 4294967296 := by omega
 have hY : y1 * 4294967296 + y0 = y * 4 := by omega
 have hN : (u * 4294967296 + d1) * 4294967296 + d0 = (hi * 18446744073709551616 + lo) * 4 := Mul64.num_eq hi lo u l8 d1 d0 4 4611686018427387904 (by decide) (by decide) hu hl8 hd1 hd0
 have H := Lib.hid (And.intro hY hN)
 clear hy1 hy0 hu hl8 hd1 hd0 e9 e10 e11 e12 e13 e14 e15 e16 hY hN
 go_cut [15] (fun qv wx => ∃ q : Int, 0 ≤ q ∧ q.toNat = (u * 4294967296 + d1) / (y1 * 4294967296 + y0) ∧ qv = .int .u64 q ∧ w = wx)
 case first =>
  go_wp2_with fail
  go_loop [15, 16] (fun qv rv => ∃ q r : Int, 0 ≤ q ∧ 0 ≤ r ∧ r < 4294967296 ∧ Cdv.Dg u y1 y0 d1 q.toNat r.toNat ∧ qv = .int .u64 q ∧ rv = .int .u64 r) (fun qv _ => (intOf qv).toNat)
  case atStart => exact ⟨((u / y1 : Nat) : Int), ((u % y1 : Nat) : Int), Int.natCast_nonneg _, Int.natCast_nonneg _, by have := Nat.mod_lt u (show y1 > 0 by omega); omega, Cdv.Dg.start by1 by0 bu bd1, rfl, rfl⟩
  case round =>
   obtain ⟨q, r, hq0, hr0, hr, hdg, rfl, rfl⟩ := hrel
   have hq : q ≤ 4294967298 := by have := hdg.few; omega
   by_cases hgo : 4294967296 ≤ q.toNat ∨ 4294967296 * r.toNat + d1 < q.toNat * y0
   ·obtain ⟨hs, hge⟩ := hdg.step bu bd1 hgo
    have hq1 : 1 ≤ q := by omega
    have e1 : (q - 1).toNat = q.toNat - 1 := by omega
    have e2 : (r + (y1 : Int)).toNat = r.toNat + y1 := by omega
    rw [← e1, ← e2] at hs
    have HD := Lib.hid hs
    clear hdg hs e1 e2
    by_cases hqt : 4294967296 ≤ q
    ·clear hgo hge
     go_wp2_with fail
     ·go_meet
      exact ⟨q - 1, by omega, HD.out.stop by0 bu (Or.inl (by omega)), rfl, rfl⟩
     ·go_round
      case rel => exact ⟨q - 1, r + (y1 : Int), by omega, by omega, by omega, HD.out, rfl, rfl⟩
      case measure => simp [intOf]; omega
    ·have hm0 : 0 ≤ q * (y0 : Int) := Int.mul_nonneg hq0 (by omega)
     have em : q * (y0 : Int) = ((q.toNat * y0 : Nat) : Int) := by rw [Int.natCast_mul, Int.toNat_of_nonneg hq0]
     have hm1 : q * (y0 : Int) < 18446744073709551616 := by
      have h := Cdv.fits (y0 := y0) (q := q.toNat) (by omega) by0
      omega
     have ht : 4294967296 * r + (d1 : Int) < q * (y0 : Int) := by
      rcases hgo with h | h
      ·omega
      ·omega
     clear em hgo hge
     go_wp2_with fail
     ·go_meet
      exact ⟨q - 1, by omega, HD.out.stop by0 bu (Or.inl (by omega)), rfl, rfl⟩
     ·go_round
      case rel => exact ⟨q - 1, r + (y1 : Int), by omega, by omega, by omega, HD.out, rfl, rfl⟩
      case measure => simp [intOf]; omega
   ·have hqt : ¬ 4294967296 ≤ q := by omega
    have hm0 : 0 ≤ q * (y0 : Int) := Int.mul_nonneg hq0 (by omega)
    have em : q * (y0 : Int) = ((q.toNat * y0 : Nat) : Int) := by rw [Int.natCast_mul, Int.toNat_of_nonneg hq0]
    have hm1 : q * (y0 : Int) < 18446744073709551616 := by
     have h := Cdv.fits (y0 := y0) (q := q.toNat) (by omega) by0
     omega
    have ht : ¬ 4294967296 * r + (d1 : Int) < q * (y0 : Int) := by omega
    have hst := hdg.stop by0 bu (Or.inr ⟨by omega, by omega⟩)
    have HD := Lib.hid hst
    clear em hgo hdg hst
    go_wp2_with fail
    go_meet
    exact ⟨q, hq0, HD.out, rfl, rfl⟩
 case rest =>
  obtain ⟨q, hq0, hq, rfl, rfl⟩ := hcut
  obtain ⟨Q, rfl⟩ : ∃ Q : Nat, q = (Q : Int) := ⟨q.toNat, by omega⟩
  rw [Int.toNat_natCast] at hq
  have HQ := Lib.hid hq
  clear hq
  go_upto_block 2 with fail
  obtain ⟨u2, hu2⟩ : ∃ u2, u2 = (u * 4294967296 + d1) % (y1 * 4294967296 + y0) := ⟨_, rfl⟩
  have bu2 : u2 < y1 * 4294967296 + y0 := by rw [hu2]; exact Nat.mod_lt _ (by omega)
  have e17 := Mul64.rest_eq u d1 Q y 4 u2 4 rfl (by rw [← H.out.1, HQ.out, hu2]; exact Nat.div_add_mod' _ _) (by omega)
  have e18 := Mul64.quo_eq u2 y1 (by omega) (by omega)
  have e19 := Mul64.rem_eq u2 y1 (by omega) (by omega)
  simp only [e17, e18, e19]
  have H2 := Lib.hid hu2
  clear hu2 e17 e18 e19
  go_cut [18] (fun qv wx => ∃ q : Int, 0 ≤ q ∧ q.toNat = (u2 * 4294967296 + d0) / (y1 * 4294967296 + y0) ∧ qv = .int .u64 q ∧ w = wx)
  case first =>
   go_wp2_with fail
   go_loop [16, 18] (fun rv qv => ∃ q r : Int, 0 ≤ q ∧ 0 ≤ r ∧ r < 4294967296 ∧ Cdv.Dg u2 y1 y0 d0 q.toNat r.toNat ∧ qv = .int .u64 q ∧ rv = .int .u64 r) (fun _ qv => (intOf qv).toNat)
   case atStart => exact ⟨((u2 / y1 : Nat) : Int), ((u2 % y1 : Nat) : Int), Int.natCast_nonneg _, Int.natCast_nonneg _, by have := Nat.mod_lt u2 (show y1 > 0 by omega); omega, Cdv.Dg.start by1 by0 bu2 bd0, rfl, rfl⟩
   case round =>
    obtain ⟨q, r, hq0, hr0, hr, hdg, rfl, rfl⟩ := hrel
    have hq : q ≤ 4294967298 := by have := hdg.few; omega
    by_cases hgo : 4294967296 ≤ q.toNat ∨ 4294967296 * r.toNat + d0 < q.toNat * y0
    ·obtain ⟨hs, hge⟩ := hdg.step bu2 bd0 hgo
     have hq1 : 1 ≤ q := by omega
     have e1 : (q - 1).toNat = q.toNat - 1 := by omega
     have e2 : (r + (y1 : Int)).toNat = r.toNat + y1 := by omega
     rw [← e1, ← e2] at hs
     have HD := Lib.hid hs
     clear hdg hs e1 e2
     by_cases hqt : 4294967296 ≤ q
     ·clear hgo hge
      go_wp2_with fail
      ·go_meet
       exact ⟨q - 1, by omega, HD.out.stop by0 bu2 (Or.inl (by omega)), rfl, rfl⟩
      ·go_round
       case rel => exact ⟨q - 1, r + (y1 : Int), by omega, by omega, by omega, HD.out, rfl, rfl⟩
       case measure => simp [intOf]; omega
     ·have hm0 : 0 ≤ q * (y0 : Int) := Int.mul_nonneg hq0 (by omega)
      have em : q * (y0 : Int) = ((q.toNat * y0 : Nat) : Int) := by rw [Int.natCast_mul, Int.toNat_of_nonneg hq0]
      have hm1 : q * (y0 : Int) < 18446744073709551616 := by
       have h := Cdv.fits (y0 := y0) (q := q.toNat) (by omega) by0
       omega
      have ht : 4294967296 * r + (d0 : Int) < q * (y0 : Int) := by
       rcases hgo with h | h
       ·omega
       ·omega
      clear em hgo hge
      go_wp2_with fail
      ·go_meet
       exact ⟨q - 1, by omega, HD.out.stop by0 bu2 (Or.inl (by omega)), rfl, rfl⟩
      ·go_round
       case rel => exact ⟨q - 1, r + (y1 : Int), by omega, by omega, by omega, HD.out, rfl, rfl⟩
       case measure => simp [intOf]; omega
    ·have hqt : ¬ 4294967296 ≤ q := by omega
     have hm0 : 0 ≤ q * (y0 : Int) := Int.mul_nonneg hq0 (by omega)
     have em : q * (y0 : Int) = ((q.toNat * y0 : Nat) : Int) := by rw [Int.natCast_mul, Int.toNat_of_nonneg hq0]
     have hm1 : q * (y0 : Int) < 18446744073709551616 := by
      have h := Cdv.fits (y0 := y0) (q := q.toNat) (by omega) by0
      omega
     have ht : ¬ 4294967296 * r + (d0 : Int) < q * (y0 : Int) := by omega
     have hst := hdg.stop by0 bu2 (Or.inr ⟨by omega, by omega⟩)
     have HD := Lib.hid hst
     clear em hgo hdg hst
     go_wp2_with fail
     go_meet
     exact ⟨q, hq0, HD.out, rfl, rfl⟩
  case rest =>
   obtain ⟨q, hq0, hq, rfl, rfl⟩ := hcut
   obtain ⟨Z, rfl⟩ : ∃ Z : Nat, q = (Z : Int) := ⟨q.toNat, by omega⟩
   rw [Int.toNat_natCast] at hq
   have HZ := Lib.hid hq
   clear hq
   go_wp2_with fail
   obtain ⟨hf1, hf2⟩ := Mul64.fin (hi * 18446744073709551616 + lo) y 4 u d1 d0 Q Z u2 _ (by omega) (by decide) H.out.1 H.out.2 HQ.out H2.out HZ.out
   have hq64 : (hi * 18446744073709551616 + lo) / y < 18446744073709551616 := by
    rw [Nat.div_lt_iff_lt_mul (by omega)]; omega
   have hr64 := Nat.mod_lt (hi * 18446744073709551616 + lo) (show y > 0 by omega)
   have ht := Mul64.top_eq Q Z _ hf1 hq64
   have hr := Mul64.rest_eq u2 d0 Z y 4 _ 4 rfl hf2 (by omega)
   go_ret2
   exact ⟨ret_two ht (Mul64.last_eq _ _ _ 4 hr rfl (by decide)), 0, rfl⟩

end Go.Proofs.Ytaohpdhhbnempaa
