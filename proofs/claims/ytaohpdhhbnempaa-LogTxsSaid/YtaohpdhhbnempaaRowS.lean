/- A slice of structs of integers that comes in as a law's argument; and a law with several slices among its arguments, for the symbolic machine. No statement of the program itself. -/
import Derived.Test.YtaohpdhhbnempaaSy
import Derived.Test.YtaohpdhhbnempaaLeaf
import Derived.Test.YtaohpdhhbnempaaArgs
import Derived.Deep.Slices
namespace Go.Proofs.Ytaohpdhhbnempaa
open Go.ChangeShapes Go.WideShapes Go.RowKit Go.Lib Ckp Sx
set_option linter.unusedVariables false
set_option linter.unusedSimpArgs false
def IsRowS (ks : List IntKind) (w : World) (a : Option Addr) (len cap : Nat) (zss : List (List Int)) : Prop :=
 (a = none ∧ len = 0 ∧ cap = 0 ∧ zss = []) ∨
 ∃ x, a = some x ∧ len ≤ cap ∧ cap ≤ maxLen ∧ zss.length = cap ∧ ∀ i, i < cap → (∀ j v, (ecells ks (zss.getD i [])).toList[j]? = some v → w.cell? (x.add (i * ks.length + j)) = some v) ∧ ∀ j k, ks[j]? = some k → (Lit.int k ((zss.getD i []).getD j 0)).wf = true
def okS (ks : List IntKind) (l : List (List Int)) : Prop := ∀ i, i < l.length → ∀ j k, ks[j]? = some k → (Lit.int k ((l.getD i []).getD j 0)).wf = true
def roM (cs : List Sx.Cont) (i : Nat) : Option Res := match cs[i]? with
 | some c => some (.ro c)
 | none => none
theorem okWide_has' {P : Program} {w : World} {r : Reach} {base : Nat} {t e : TypeId} {a : Option Addr} {len cap : Nat} (ht : P.underlying t = some (.slice e)) (h : Value.okWide P w r base t (.slice a len cap)) : ∀ x, a = some x → x.spot = none ∧ x.block < w.heap.size := by
 rintro x rfl
 simp only [Value.okWide, ht, Cell.okWide, Cell.ok] at h
 obtain ⟨_, _, _, hs, row, cells, hsh, _⟩ := h
 refine ⟨hs, ?_⟩
 unfold World.shape? at hsh
 rcases Nat.lt_or_ge x.block w.heap.size with hlt | hge
 ·exact hlt
 ·rw [Array.getElem?_eq_none hge] at hsh
  cases hsh
end Go.Proofs.Ytaohpdhhbnempaa
