/- Contracts of math/bits.Rem64 by the three divisors of the program: Order, one less than it, and Modulus. -/
import Derived.Test.YtebffdgghkomjaaDoorBits
namespace Go.Proofs.YtebffdgghkomjaaDoor
open Go.RowKit Go.Lib
set_option linter.unusedVariables false

def dq (h lo y : Nat) : Nat := (h * 18446744073709551616 + lo) / y
def dr (h lo y : Nat) : Nat := (h * 18446744073709551616 + lo) % y
/-- The post of a call that only draws. -/
def RetQ (v : Value) (w : World) (e : Ending) (w' : World) : Prop := e = .returned v ∧ ∃ n, w' = w.drewN n
