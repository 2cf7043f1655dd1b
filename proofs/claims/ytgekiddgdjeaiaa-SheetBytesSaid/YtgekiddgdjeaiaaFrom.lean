/- Contract of field.From: a sum's 32 bytes as a number modulo one less than Order, and 1. -/
import Derived.Test.YtgekiddgdjeaiaaField
import Derived.Laws.Rows
import Derived.Test.YtgekiddgdjeaiaaKp
namespace Go.Proofs.Ytgekiddgdjeaiaa
open Go.RowKit Go.Lib Cfd Ckp
set_option linter.unusedVariables false

/-- Bytes as cells; a sum of 32 bytes as a value. -/
@[irreducible] def bcs (l : List Nat) : Array Value := (l.map fun b => Value.int .u8 (b : Nat)).toArray
theorem bcs_get (l : List Nat) (k : Nat) (h : k < l.length) : (bcs l)[k]? = some (.int .u8 (l[k] : Nat)) := by unfold bcs; simp [List.getElem?_eq_getElem h]
abbrev B8 (l : List Nat) : Value := .agg (bcs l)

theorem Try.info23 : (Try.prog.info? 23).map (·.size) = some 32 := by kernel_rfl
def nhi (n b : Nat) : Nat := (n * 256 + b) / 18446744073709551616
def nlo (n b : Nat) : Nat := (n * 256 + b) % 18446744073709551616