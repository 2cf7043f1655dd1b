/- Contracts of math/bits.Rem64 by the three divisors of the program: Order, one less than it, and Modulus. -/
import Derived.Test.YtaohpdhhbnempaaBits
namespace Go.Proofs.Ytaohpdhhbnempaa
open Go.RowKit Go.Lib
set_option linter.unusedVariables false

theorem ret_int {k : IntKind} {a b : Int} (h : a = b) : Ending.returned (.int k a) = .returned (.int k b) := by rw [h]
def dq (h lo y : Nat) : Nat := (h * 18446744073709551616 + lo) / y
def dr (h lo y : Nat) : Nat := (h * 18446744073709551616 + lo) % y
theorem remcong (hi lo y N : Nat) (h : hi * 18446744073709551616 + lo = N) : (hi % y * 18446744073709551616 + lo) % y = N % y := by
 rw [← h, Nat.add_mod, Nat.mul_mod, Nat.mod_mod, ← Nat.mul_mod, ← Nat.add_mod]

theorem div64_p (hi lo : Nat) (hlo : lo < 18446744073709551616) (hhi : hi < 4611686018427377339) (w : World) :
  Calls Try.prog 112 #[.int .u64 hi, .int .u64 lo, .int .u64 (4611686018427377339 : Nat)] w fun e w' => e = .returned (.tuple #[.int .u64 (((hi * 18446744073709551616 + lo) / 4611686018427377339 : Nat) : Int), .int .u64 (((hi * 18446744073709551616 + lo) % 4611686018427377339 : Nat) : Int)]) ∧ ∃ n, w' = w.drewN n := by
 rcases Nat.eq_zero_or_pos hi with h0 | h0
 ·subst h0
  have h := div64_0 lo 4611686018427377339 hlo (by decide) (by decide) w
  rw [Nat.zero_mul, Nat.zero_add]
  exact h
 ·exact div64_2 hi lo 4611686018427377339 h0 hlo hhi (by decide) (by decide) lz_p w

def RetQ (v : Value) (w : World) (e : Ending) (w' : World) : Prop := e = .returned v ∧ ∃ n, w' = w.drewN n

set_option maxRecDepth 100000 in
theorem rem64_any (hi lo y N : Nat) (hy : 0 < y) (hy' : y < 18446744073709551616) (hhi : hi < 18446744073709551616) (hN : hi * 18446744073709551616 + lo = N)
  (hdiv : ∀ (h : Nat) (w : World), h < y → Calls Try.prog 112 #[.int .u64 h, .int .u64 lo, .int .u64 (y : Nat)] w fun e w' => e = .returned (.tuple #[.int .u64 ((dq h lo y : Nat) : Int), .int .u64 ((dr h lo y : Nat) : Int)]) ∧ ∃ n, w' = w.drewN n) (w : World) :
  Calls Try.prog 111 #[.int .u64 hi, .int .u64 lo, .int .u64 (y : Nat)] w (RetQ (.int .u64 ((N % y : Nat) : Int)) w) := by
 have hc : dr (hi % y) lo y = N % y := remcong hi lo y N hN
 have hlt := Nat.mod_lt hi hy
 have Hd := Lib.hid hdiv
 obtain ⟨m, hm⟩ : ∃ m, m = hi % y := ⟨_, rfl⟩
 rw [← hm] at hc
 have Hc := Lib.hid hc
 have e1 : (hi : Int) % (y : Int) = (m : Int) := by rw [hm]; exact (Int.natCast_emod _ _).symm
 have Hm := Lib.hid hm
 rw [← hm] at hlt
 clear hdiv hc hN hm
 have hyz : ¬ ((y : Int) = 0) := by omega
 go_enter Try.func111, Try.ntmps111
 go_wp2_with fail
 refine (Hd.out _ _ hlt).mono ?_
 rintro e w' ⟨rfl, n, rfl⟩
 go_wp2_with fail
 go_ret
 exact ⟨ret_int (congrArg Nat.cast Hc.out), n, rfl⟩

theorem rem64_p (hi lo N : Nat) (hhi : hi < 18446744073709551616) (hlo : lo < 18446744073709551616) (hN : hi * 18446744073709551616 + lo = N) (w : World) :
  Calls Try.prog 111 #[.int .u64 hi, .int .u64 lo, .int .u64 4611686018427377339] w (RetQ (.int .u64 ((N % 4611686018427377339 : Nat) : Int)) w) :=
 rem64_any hi lo 4611686018427377339 N (by decide) (by decide) hhi hN (fun h w hh => div64_p h lo hlo hh w) w
end Go.Proofs.Ytaohpdhhbnempaa
