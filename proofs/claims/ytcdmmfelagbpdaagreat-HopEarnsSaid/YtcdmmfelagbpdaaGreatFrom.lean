/- Contract of field.From: a sum's 32 bytes as a number modulo one less than Order, and 1. -/
import Derived.Test.YtcdmmfelagbpdaaGreatField
import Derived.Laws.Rows
import Derived.Test.YtcdmmfelagbpdaaGreatKp
namespace Go.Proofs.YtcdmmfelagbpdaaGreat
open Go.RowKit Go.Lib Cfd Ckp
set_option linter.unusedVariables false

@[irreducible] def bcs (l : List Nat) : Array Value := (l.map fun b => Value.int .u8 (b : Nat)).toArray
theorem bcs_get (l : List Nat) (k : Nat) (h : k < l.length) : (bcs l)[k]? = some (.int .u8 (l[k] : Nat)) := by unfold bcs; simp [List.getElem?_eq_getElem h]
abbrev B8 (l : List Nat) : Value := .agg (bcs l)

theorem Tryz.info23 : (Tryz.prog.info? 23).map (·.size) = some 32 := by kernel_rfl
def nhi (n b : Nat) : Nat := (n * 256 + b) / 18446744073709551616
def nlo (n b : Nat) : Nat := (n * 256 + b) % 18446744073709551616