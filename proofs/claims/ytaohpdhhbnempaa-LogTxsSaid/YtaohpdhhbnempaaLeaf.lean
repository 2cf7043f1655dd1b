/- An argument of nested structs and arrays, opened to its cells. -/
import Derived.Test.YtaohpdhhbnempaaArgs
import Derived.WalkKit
import Derived.ProofKit
import Derived.OpenShut
namespace Ckp
open Go Go.ChangeShapes Go.WideShapes Go.RowKit
set_option linter.unusedVariables false

def flatB (P : Program) (t : TypeId) : Bool := match P.underlying t with | some (.struct _) => false | some (.array _ _) => false | _ => true
def leafAt (P : Program) : Nat → TypeId → Nat → Option TypeId
 | 0, _, _ => none
 | n + 1, t, j =>
  match P.underlying t with
  | some (.struct fs) =>
   match fs.toList.find? (fun f => decide (f.offset ≤ j) && decide (j < f.offset + P.cellsOf f.type)) with
   | some f => leafAt P n f.type (j - f.offset)
   | none => none
  | some (.array k e) => if j / P.cellsOf e < k ∧ 0 < P.cellsOf e then leafAt P n e (j % P.cellsOf e) else none
  | some _ => if j = 0 then some t else none
  | none => none
section
variable {H : Type} {enc : TypeId × Value → H} {P : Program} {w : World} {base : Nat} {spare : Nat → Bool} {held : Bool}
theorem trod_one {fuel : Nat} {t : TypeId} {cs : List Value} {x : DataW H × List MemPlace} (hs : ∀ fs, P.underlying t ≠ some (.struct fs)) (ha : ∀ n e, P.underlying t ≠ some (.array n e)) (h : DataW.trod enc P w base spare held fuel t cs = some x) : ∃ v, cs = [v] := by
 cases fuel with
 | zero => simp [DataW.trod] at h
 | succ n =>
  unfold DataW.trod at h
  split at h
  all_goals first | exact ⟨_, rfl⟩ | (rename_i e; exact absurd e (hs _)) | (rename_i e; exact absurd e (ha _ _)) | (cases h) | skip
theorem trod_leaf : ∀ (n : Nat) (t : TypeId) (j : Nat) (lt : TypeId) (fuel : Nat) (cs : List Value) (x : DataW H × List MemPlace), leafAt P n t j = some lt → DataW.trod enc P w base spare held fuel t cs = some x →
  ∃ (v : Value) (m : Nat) (y : DataW H × List MemPlace), cs[j]? = some v ∧ DataW.trod enc P w base spare held m lt [v] = some y
 | 0, t, j, lt, fuel, cs, x, hl, h => by simp [leafAt] at hl
 | n + 1, t, j, lt, fuel, cs, x, hl, h => by
  unfold leafAt at hl
  split at hl
  ·rename_i fs e
   split at hl
   ·rename_i f hf
    have hm := List.find?_some hf
    simp only [Bool.and_eq_true, decide_eq_true_eq] at hm
    have hmem := List.mem_of_find?_eq_some hf
    obtain ⟨i, hi, hfi⟩ := List.getElem_of_mem hmem
    obtain ⟨xs, m, _, _, hlen, hxl, hg⟩ := DataW.trod_struct e h
    have hi' : i < fs.size := by simpa using hi
    have h1 := hg i f (by rw [← hfi]; simp [hi'])
    rw [List.getElem?_eq_getElem (by omega)] at h1
    obtain ⟨v, m', y, hv, hy⟩ := trod_leaf n f.type (j - f.offset) lt m _ _ hl h1
    refine ⟨v, m', y, ?_, hy⟩
    rw [List.getElem?_take] at hv
    rw [if_pos (by omega), List.getElem?_drop] at hv
    rw [← hv]; congr 1; omega
   ·cases hl
  ·rename_i k e he
   split at hl
   ·rename_i hc
    obtain ⟨xs, m, _, _, hlen, hxl, hg⟩ := DataW.trod_array he h
    have h1 := hg (j / P.cellsOf e) hc.1
    rw [List.getElem?_eq_getElem (by omega)] at h1
    obtain ⟨v, m', y, hv, hy⟩ := trod_leaf n e (j % P.cellsOf e) lt m _ _ hl h1
    refine ⟨v, m', y, ?_, hy⟩
    rw [List.getElem?_take, if_pos (Nat.mod_lt _ hc.2), List.getElem?_drop] at hv
    rw [← hv]; congr 1
    rw [Nat.mul_comm]; exact (Nat.div_add_mod j (P.cellsOf e)).symm
   ·cases hl
  ·rename_i d hs ha hu
   split at hl
   ·rename_i hj
    subst hj
    injection hl with hl
    subst hl
    obtain ⟨v, hv⟩ := trod_one (fun fs e => hs fs (Option.some.inj (hu.symm.trans e))) (fun n e e' => ha n e (Option.some.inj (hu.symm.trans e'))) h
    subst hv
    exact ⟨v, fuel, x, rfl, h⟩
   ·cases hl
  ·cases hl
theorem trod_int_at {n : Nat} {t : TypeId} {j : Nat} {lt : TypeId} {k : IntKind} {fuel : Nat} {cs : List Value} {x : DataW H × List MemPlace} (hl : leafAt P n t j = some lt) (hk : P.underlying lt = some (.int k)) (h : DataW.trod enc P w base spare held fuel t cs = some x) :
  ∃ z, cs[j]? = some (.int k z) ∧ (Lit.int k z).wf = true := by
 obtain ⟨v, m, y, hv, hy⟩ := trod_leaf n t j lt fuel cs x hl h
 obtain ⟨z, e, _, hw⟩ := DataW.trod_int hk hy
 injection e with e _
 subst e
 exact ⟨z, hv, hw⟩
end
def kindAt (P : Program) (t : TypeId) (j : Nat) : Option IntKind :=
 match leafAt P 9 t j with
 | some lt => (match P.underlying lt with | some (.int k) => some k | _ => none)
 | none => none
def kindsOf (P : Program) (t : TypeId) : List (Option IntKind) := (List.range (P.cellsOf t)).map (kindAt P t)
def zOf : Value → Int | .int _ n => n | _ => 0
def zipV : List IntKind → List Int → List Value
 | k :: ks, z :: zs => .int k z :: zipV ks zs
 | _, _ => []
def wfs : List IntKind → List Int → Prop
 | k :: ks, z :: zs => (Lit.int k z).wf = true ∧ wfs ks zs
 | _, _ => True
theorem list8 {zs : List Int} (h : zs.length = 8) : ∃ a b c d e f g h, zs = [a, b, c, d, e, f, g, h] := by
 match zs, h with
 | [a, b, c, d, e, f, g, h], _ => exact ⟨a, b, c, d, e, f, g, h, rfl⟩
end Ckp
