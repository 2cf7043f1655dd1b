/- Div64 by a million (printed by genho0.py). -/
import Derived.Test.YtcdmmfelagbpdaaGreatBits
namespace Go.Proofs.YtcdmmfelagbpdaaGreat
open Go.RowKit Go.Lib
set_option linter.unusedVariables false
set_option linter.unusedSimpArgs false
set_option maxRecDepth 100000 in
theorem lz_m (w : World) : Calls Tryz.prog 100 #[.int .u64 1000000] w fun e w' => e = .returned (.int .i64 44) ∧ w = w' := by
 go_enter Tryz.func100, Tryz.ntmps100
 go_wp2
 go_ret
 exact ⟨by kernel_rfl, rfl⟩
set_option maxRecDepth 100000 in
set_option maxHeartbeats 1000000 in
theorem div64_44 (hi lo y : Nat) (h0 : 0 < hi) (hlo : lo < 18446744073709551616) (hhi : hi < y) (hy : 524288 ≤ y) (hy' : y < 1048576)
  (hlz : ∀ w, Calls Tryz.prog 100 #[.int .u64 y] w fun e w' => e = .returned (.int .i64 44) ∧ w = w') (w : World) :
  Calls Tryz.prog 83 #[.int .u64 hi, .int .u64 lo, .int .u64 y] w fun e w' => e = .returned (.tuple #[.int .u64 (((hi * 18446744073709551616 + lo) / y : Nat) : Int), .int .u64 (((hi * 18446744073709551616 + lo) % y : Nat) : Int)]) ∧ ∃ n, w' = w.drewN n := by
 have Hlz := Lib.hid hlz
 clear hlz
 have hyz : ((y : Int) == 0) = false := by simp; omega
 have h0' : ((hi : Int) == 0) = false := by simp; omega
 have hh : ¬ ((y : Int) ≤ hi) := by omega
 go_enter Tryz.func83, Tryz.ntmps83
 go_upto_block 0 with (go_at_call 100; refine (Hlz.out _).mono ?_; rintro e w' ⟨rfl, rfl⟩)
 obtain ⟨y1, hy1⟩ : ∃ y1, y1 = y * 17592186044416 / 4294967296 := ⟨_, rfl⟩
 obtain ⟨y0, hy0⟩ : ∃ y0, y0 = y * 17592186044416 % 4294967296 := ⟨_, rfl⟩
 obtain ⟨u, hu⟩ : ∃ u, u = hi * 17592186044416 + lo / 1048576 := ⟨_, rfl⟩
 obtain ⟨l8, hl8⟩ : ∃ l8, l8 = lo * 17592186044416 % 18446744073709551616 := ⟨_, rfl⟩
 obtain ⟨d1, hd1⟩ : ∃ d1, d1 = l8 / 4294967296 := ⟨_, rfl⟩
 obtain ⟨d0, hd0⟩ : ∃ d0, d0 = l8 % 4294967296 := ⟨_, rfl⟩
 have e9 : (y : Int) * 17592186044416 / 4294967296 = (y1 : Int) := by omega
 have e10 : bits BinOp.and IntKind.u64 ((y : Int) * 17592186044416) 4294967295 = (y0 : Int) := by
  have h := Mul64.maskN (y * 17592186044416) (by omega)
  rw [← hy0] at h
  rw [← h]; congr 1
 have e11 : bits BinOp.or IntKind.u64 ((hi : Int) * 17592186044416) ((lo : Int) / 1048576) = (u : Int) := by
  have h := Mul64.orN 44 hi (lo / 1048576) (by omega) (by omega)
  rw [hu, ← h]; congr 1
 have e12 : IntKind.u64.wrap ((lo : Int) * 17592186044416) = (l8 : Int) := by rw [IntKind.wrap_u64]; omega
 have e14 : bits BinOp.and IntKind.u64 (l8 : Int) 4294967295 = (d0 : Int) := by
  rw [Mul64.maskN _ (by omega), hd0]
 have e13 : (l8 : Int) / 4294967296 = (d1 : Int) := by omega
 have e15 := Mul64.quo_eq u y1 (by omega) (by omega)
 have e16 := Mul64.rem_eq u y1 (by omega) (by omega)
 simp only [e9, e10, e11, e12, e13, e14, e15, e16]
 have by1 : 2147483648 ≤ y1 := by omega
 have by1' : y1 < 4294967296 := by omega
 have by0 : y0 < 4294967296 := by omega
 have bu : u < y1 * 4294967296 + y0 := by omega
 have bd1 : d1 < 4294967296 := by omega
 have bd0 : d0 < 4294967296 := by omega
 have hY : y1 * 4294967296 + y0 = y * 17592186044416 := by omega
 have hN : (u * 4294967296 + d1) * 4294967296 + d0 = (hi * 18446744073709551616 + lo) * 17592186044416 := Mul64.num_eq hi lo u l8 d1 d0 17592186044416 1048576 (by omega) (by omega) hu hl8 hd1 hd0
 have H := Lib.hid (And.intro hY hN)
 clear hy1 hy0 hu hl8 hd1 hd0 e9 e10 e11 e12 e13 e14 e15 e16 hY hN
 go_cut [15] (fun qv wx => ∃ q : Int, 0 ≤ q ∧ q.toNat = (u * 4294967296 + d1) / (y1 * 4294967296 + y0) ∧ qv = .int .u64 q ∧ w = wx)
 case first =>
  go_wp2_with fail
  go_loop [15, 16] (fun qv rv => ∃ q r : Int, 0 ≤ q ∧ 0 ≤ r ∧ r < 4294967296 ∧ Cdv.Dg u y1 y0 d1 q.toNat r.toNat ∧ qv = .int .u64 q ∧ rv = .int .u64 r) (fun qv _ => (intOf qv).toNat)
  case atStart => exact ⟨((u / y1 : Nat) : Int), ((u % y1 : Nat) : Int), Int.natCast_nonneg _, Int.natCast_nonneg _, by have := Nat.mod_lt u (show y1 > 0 by omega); omega, Cdv.Dg.start by1 by0 bu bd1, rfl, rfl⟩
  case round =>
   obtain ⟨q, r, hq0, hr0, hr, hdg, rfl, rfl⟩ := hrel
   have hq : q ≤ 4294967298 := by have := hdg.few; omega
   by_cases hgo : 4294967296 ≤ q.toNat ∨ 4294967296 * r.toNat + d1 < q.toNat * y0
   ·obtain ⟨hs, hge⟩ := hdg.step bu bd1 hgo
    have hq1 : 1 ≤ q := by omega
    have e1 : (q - 1).toNat = q.toNat - 1 := by omega
    have e2 : (r + (y1 : Int)).toNat = r.toNat + y1 := by omega
    rw [← e1, ← e2] at hs
    have HD := Lib.hid hs
    clear hdg hs e1 e2
    by_cases hqt : 4294967296 ≤ q
    ·clear hgo hge
     go_wp2_with fail
     ·go_meet
      exact ⟨q - 1, by omega, HD.out.stop by0 bu (Or.inl (by omega)), rfl, rfl⟩
     ·go_round
      case rel => exact ⟨q - 1, r + (y1 : Int), by omega, by omega, by omega, HD.out, rfl, rfl⟩
      case measure => simp [intOf]; omega
    ·have hm0 : 0 ≤ q * (y0 : Int) := Int.mul_nonneg hq0 (by omega)
     have em : q * (y0 : Int) = ((q.toNat * y0 : Nat) : Int) := by rw [Int.natCast_mul, Int.toNat_of_nonneg hq0]
     have hm1 : q * (y0 : Int) < 18446744073709551616 := by
      have h := Cdv.fits (y0 := y0) (q := q.toNat) (by omega) by0
      omega
     have ht : 4294967296 * r + (d1 : Int) < q * (y0 : Int) := by
      rcases hgo with h | h
      ·omega
      ·omega
     clear em hgo hge
     go_wp2_with fail
     ·go_meet
      exact ⟨q - 1, by omega, HD.out.stop by0 bu (Or.inl (by omega)), rfl, rfl⟩
     ·go_round
      case rel => exact ⟨q - 1, r + (y1 : Int), by omega, by omega, by omega, HD.out, rfl, rfl⟩
      case measure => simp [intOf]; omega
   ·have hqt : ¬ 4294967296 ≤ q := by omega
    have hm0 : 0 ≤ q * (y0 : Int) := Int.mul_nonneg hq0 (by omega)
    have em : q * (y0 : Int) = ((q.toNat * y0 : Nat) : Int) := by rw [Int.natCast_mul, Int.toNat_of_nonneg hq0]
    have hm1 : q * (y0 : Int) < 18446744073709551616 := by
     have h := Cdv.fits (y0 := y0) (q := q.toNat) (by omega) by0
     omega
    have ht : ¬ 4294967296 * r + (d1 : Int) < q * (y0 : Int) := by omega
    have hst := hdg.stop by0 bu (Or.inr ⟨by omega, by omega⟩)
    have HD := Lib.hid hst
    clear em hgo hdg hst
    go_wp2_with fail
    go_meet
    exact ⟨q, hq0, HD.out, rfl, rfl⟩
 case rest =>
  obtain ⟨q, hq0, hq, rfl, rfl⟩ := hcut
  obtain ⟨Q, rfl⟩ : ∃ Q : Nat, q = (Q : Int) := ⟨q.toNat, by omega⟩
  rw [Int.toNat_natCast] at hq
  have HQ := Lib.hid hq
  clear hq
  go_upto_block 2 with fail
  obtain ⟨u2, hu2⟩ : ∃ u2, u2 = (u * 4294967296 + d1) % (y1 * 4294967296 + y0) := ⟨_, rfl⟩
  have bu2 : u2 < y1 * 4294967296 + y0 := by rw [hu2]; exact Nat.mod_lt _ (by omega)
  have b18 : u2 < 18446744073709551616 := by clear H Hlz HQ bu hh h0' hyz; omega
  have c18 : 0 < y1 := by clear H Hlz HQ bu hh h0' hyz; omega
  have e18 := Mul64.quo_eq u2 y1 b18 c18
  have e19 := Mul64.rem_eq u2 y1 b18 c18
  have e17 := Mul64.rest_eq u d1 Q y 17592186044416 u2 17592186044416 (by simp) (by rw [← H.out.1, HQ.out, hu2]; exact Nat.div_add_mod' _ _) (by omega)
  simp only [e17, e18, e19]
  have H2 := Lib.hid hu2
  clear hu2 e17 e18 e19
  go_cut [18] (fun qv wx => ∃ q : Int, 0 ≤ q ∧ q.toNat = (u2 * 4294967296 + d0) / (y1 * 4294967296 + y0) ∧ qv = .int .u64 q ∧ w = wx)
  case first =>
   go_wp2_with fail
   go_loop [16, 18] (fun rv qv => ∃ q r : Int, 0 ≤ q ∧ 0 ≤ r ∧ r < 4294967296 ∧ Cdv.Dg u2 y1 y0 d0 q.toNat r.toNat ∧ qv = .int .u64 q ∧ rv = .int .u64 r) (fun _ qv => (intOf qv).toNat)
   case atStart => exact ⟨((u2 / y1 : Nat) : Int), ((u2 % y1 : Nat) : Int), Int.natCast_nonneg _, Int.natCast_nonneg _, by have := Nat.mod_lt u2 (show y1 > 0 by omega); omega, Cdv.Dg.start by1 by0 bu2 bd0, rfl, rfl⟩
   case round =>
    obtain ⟨q, r, hq0, hr0, hr, hdg, rfl, rfl⟩ := hrel
    have hq : q ≤ 4294967298 := by have := hdg.few; omega
    by_cases hgo : 4294967296 ≤ q.toNat ∨ 4294967296 * r.toNat + d0 < q.toNat * y0
    ·obtain ⟨hs, hge⟩ := hdg.step bu2 bd0 hgo
     have hq1 : 1 ≤ q := by omega
     have e1 : (q - 1).toNat = q.toNat - 1 := by omega
     have e2 : (r + (y1 : Int)).toNat = r.toNat + y1 := by omega
     rw [← e1, ← e2] at hs
     have HD := Lib.hid hs
     clear hdg hs e1 e2
     by_cases hqt : 4294967296 ≤ q
     ·clear hgo hge
      go_wp2_with fail
      ·go_meet
       exact ⟨q - 1, by omega, HD.out.stop by0 bu2 (Or.inl (by omega)), rfl, rfl⟩
      ·go_round
       case rel => exact ⟨q - 1, r + (y1 : Int), by omega, by omega, by omega, HD.out, rfl, rfl⟩
       case measure => simp [intOf]; omega
     ·have hm0 : 0 ≤ q * (y0 : Int) := Int.mul_nonneg hq0 (by omega)
      have em : q * (y0 : Int) = ((q.toNat * y0 : Nat) : Int) := by rw [Int.natCast_mul, Int.toNat_of_nonneg hq0]
      have hm1 : q * (y0 : Int) < 18446744073709551616 := by
       have h := Cdv.fits (y0 := y0) (q := q.toNat) (by omega) by0
       omega
      have ht : 4294967296 * r + (d0 : Int) < q * (y0 : Int) := by
       rcases hgo with h | h
       ·omega
       ·omega
      clear em hgo hge
      go_wp2_with fail
      ·go_meet
       exact ⟨q - 1, by omega, HD.out.stop by0 bu2 (Or.inl (by omega)), rfl, rfl⟩
      ·go_round
       case rel => exact ⟨q - 1, r + (y1 : Int), by omega, by omega, by omega, HD.out, rfl, rfl⟩
       case measure => simp [intOf]; omega
    ·have hqt : ¬ 4294967296 ≤ q := by omega
     have hm0 : 0 ≤ q * (y0 : Int) := Int.mul_nonneg hq0 (by omega)
     have em : q * (y0 : Int) = ((q.toNat * y0 : Nat) : Int) := by rw [Int.natCast_mul, Int.toNat_of_nonneg hq0]
     have hm1 : q * (y0 : Int) < 18446744073709551616 := by
      have h := Cdv.fits (y0 := y0) (q := q.toNat) (by omega) by0
      omega
     have ht : ¬ 4294967296 * r + (d0 : Int) < q * (y0 : Int) := by omega
     have hst := hdg.stop by0 bu2 (Or.inr ⟨by omega, by omega⟩)
     have HD := Lib.hid hst
     clear em hgo hdg hst
     go_wp2_with fail
     go_meet
     exact ⟨q, hq0, HD.out, rfl, rfl⟩
  case rest =>
   obtain ⟨q, hq0, hq, rfl, rfl⟩ := hcut
   obtain ⟨Z, rfl⟩ : ∃ Z : Nat, q = (Z : Int) := ⟨q.toNat, by omega⟩
   rw [Int.toNat_natCast] at hq
   have HZ := Lib.hid hq
   clear hq
   go_wp2_with fail
   obtain ⟨hf1, hf2⟩ := Mul64.fin (hi * 18446744073709551616 + lo) y 17592186044416 u d1 d0 Q Z u2 _ (by omega) (by omega) H.out.1 H.out.2 HQ.out H2.out HZ.out
   have hq64 : (hi * 18446744073709551616 + lo) / y < 18446744073709551616 := by
    rw [Nat.div_lt_iff_lt_mul (by omega)]; omega
   have hr64 := Nat.mod_lt (hi * 18446744073709551616 + lo) (show y > 0 by omega)
   have ht := Mul64.top_eq Q Z _ hf1 hq64
   have hr := Mul64.rest_eq u2 d0 Z y 17592186044416 _ 17592186044416 (by simp) hf2 (by omega)
   go_ret2
   exact ⟨ret_two ht (Mul64.last_eq _ _ _ 17592186044416 hr (by simp) (by omega)), 0, rfl⟩


end Go.Proofs.YtcdmmfelagbpdaaGreat
