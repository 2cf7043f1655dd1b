/- Contract of field.From: a sum's 32 bytes as a number modulo one less than Order, and 1. -/
import Derived.Test.YtaohpdhhbnempaaField
import Derived.Laws.Rows
import Derived.Test.YtaohpdhhbnempaaKp
namespace Go.Proofs.Ytaohpdhhbnempaa
open Go.RowKit Go.Lib Cfd Ckp
set_option linter.unusedVariables false

@[irreducible] def bcs (l : List Nat) : Array Value := (l.map fun b => Value.int .u8 (b : Nat)).toArray
abbrev B8 (l : List Nat) : Value := .agg (bcs l)

theorem Try.info70 : (Try.prog.info? 70).map (·.size) = some 32 := by kernel_rfl
def nhi (n b : Nat) : Nat := (n * 256 + b) / 18446744073709551616
def nlo (n b : Nat) : Nat := (n * 256 + b) % 18446744073709551616