/- Contract of field.From: a sum's 32 bytes as a number modulo one less than Order, and 1. -/
import Derived.Test.YtaohpdhhbnempaaField
import Derived.Laws.Rows
import Derived.Test.YtaohpdhhbnempaaKp
namespace Go.Proofs.Ytaohpdhhbnempaa
open Go.RowKit Go.Lib Cfd Ckp
set_option linter.unusedVariables false

/-- Bytes as cells; a sum of 32 bytes as a value. -/
@[irreducible] def bcs (l : List Nat) : Array Value := (l.map fun b => Value.int .u8 (b : Nat)).toArray
theorem bcs_size (l : List Nat) : (bcs l).size = l.length := by unfold bcs; simp
theorem bcs_get (l : List Nat) (k : Nat) (h : k < l.length) : (bcs l)[k]? = some (.int .u8 (l[k] : Nat)) := by unfold bcs; simp [List.getElem?_eq_getElem h]
abbrev B8 (l : List Nat) : Value := .agg (bcs l)

theorem Try.info70 : (Try.prog.info? 70).map (·.size) = some 32 := by kernel_rfl
theorem index_hash (l : List Nat) (h32 : l.length = 32) (k : Nat) (hk : k < 32) (w : World) : (Instr.index 70 (.agg (bcs l)) (.int .i64 (k : Int))).run Try.prog w = .ok (.int .u8 (l.getD k 0 : Nat)) w := by
 have hg := bcs_get l k (by omega)
 have hd : l.getD k 0 = l[k]'(by omega) := by rw [List.getD_eq_getElem?_getD, List.getElem?_eq_getElem (by omega)]; rfl
 rw [hd]
 have hn : ¬ 32 ≤ k := by omega
 simp [Instr.index, asIntOf, run_underlying Try.underlying70, part, go_sem, hg, hn]

theorem rem_fstep (n b : Nat) (hn : n < 2305843009213688668) (hb : b < 256) (w : World) :
  Calls Try.prog 111 #[.int .u64 ((n * 256 + b) / 18446744073709551616 : Nat), .int .u64 ((n * 256 + b) % 18446744073709551616 : Nat), .int .u64 2305843009213688668] w fun e w' => e = .returned (.int .u64 (fstep n b : Nat)) ∧ ∃ n, w' = w.drewN n :=
 rem64_q1 _ _ _ (by omega) (Nat.mod_lt _ (by decide)) (Nat.div_add_mod' _ _) w

def nhi (n b : Nat) : Nat := (n * 256 + b) / 18446744073709551616
def nlo (n b : Nat) : Nat := (n * 256 + b) % 18446744073709551616
theorem nhi_eq (n b : Nat) (hn : n < 2305843009213688668) (hb : b < 256) : (n : Int) / 72057594037927936 = (nhi n b : Nat) := by unfold nhi; omega
theorem nlo_eq (n b : Nat) (hn : n < 2305843009213688668) (hb : b < 256) : bits .or .u64 (IntKind.u64.wrap ((n : Int) * 256)) (b : Int) = (nlo n b : Nat) := by
 have h1 : IntKind.u64.wrap ((n : Int) * 256) = ((n % 72057594037927936 * 2 ^ 8 : Nat) : Int) := by rw [IntKind.wrap_u64]; omega
 rw [h1, Mul64.orN 8 _ b (by omega) (by omega)]
 unfold nlo; omega
