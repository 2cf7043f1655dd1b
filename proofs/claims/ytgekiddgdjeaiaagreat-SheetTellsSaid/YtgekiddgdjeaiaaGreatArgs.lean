/- How arguments are opened: integers as naturals, sums as lists of bytes, slices of integers. -/
import Derived.Test.YtgekiddgdjeaiaaGreatFrom
import Derived.WalkKit
import Derived.ProofKit
import Derived.OpenShut
import Derived.ShutString
import Derived.ChangeOld
import Derived.Below
namespace Go.Proofs.YtgekiddgdjeaiaaGreat
open Go.ChangeShapes Go.WideShapes Go.ChangeAt Go.RowKit Ckp
set_option linter.unusedVariables false
set_option maxRecDepth 8192

theorem amu {a : Int} (h : (Lit.int .u64 a).wf = true) : ∃ n : Nat, n < 18446744073709551616 ∧ a = (n : Int) := by
 have hb := bounds_u64 h
 exact ⟨a.toNat, by omega, by omega⟩
theorem blj {a : Int} (h : (Lit.int .u8 a).wf = true) : ∃ n : Nat, n < 256 ∧ a = (n : Int) := by
 have hb := bounds_u8 h
 exact ⟨a.toNat, by omega, by omega⟩
/-! A sum: 32 bytes by value. -/
def byteOf : Value → Nat | .int _ n => n.toNat | _ => 0
def awx (k : IntKind) (w : World) (a : Option Addr) (len cap : Nat) (zs : List Int) : Prop :=
 (a = none ∧ len = 0 ∧ cap = 0 ∧ zs = []) ∨
 ∃ x, a = some x ∧ len ≤ cap ∧ cap ≤ maxLen ∧ zs.length = cap ∧ (∀ i, i < zs.length → w.cell? (x.add i) = some (.int k (zs.getD i 0))) ∧ ∀ n ∈ zs, (Lit.int k n).wf = true
theorem open_row {H : Type} {enc : TypeId × Value → H} {P : Program} {w : World} {base : Nat} {t e : TypeId} {k : IntKind} {a : Option Addr} {len cap : Nat} {d : DataW H} {p : List MemPlace}
  (ht : P.underlying t = some (.slice e)) (he : P.underlying e = some (.int k)) (hc : P.cellsOf e = 1) (h : DataW.Trod enc P w base (fun _ => true) true t (.slice a len cap) d p) : ∃ zs, awx k w a len cap zs := by
 obtain ⟨fuel, hf⟩ := h
 rcases open_ints ht he hc hf with ⟨hcs, _⟩ | ⟨x, l, c, zs, hcs, _, hl, hm, hz, _, hcell, hwz⟩
 ·simp [Value.cells] at hcs
  obtain ⟨rfl, rfl, rfl⟩ := hcs
  exact ⟨[], .inl ⟨rfl, rfl, rfl, rfl⟩⟩
 ·simp [Value.cells] at hcs
  obtain ⟨rfl, rfl, rfl⟩ := hcs
  exact ⟨zs, .inr ⟨_, rfl, hl, hm, by simpa using hz, hcell, hwz⟩⟩
def bqq (zs : List Int) (len : Nat) : List Nat := (zs.take len).map Int.toNat
end Go.Proofs.YtgekiddgdjeaiaaGreat
