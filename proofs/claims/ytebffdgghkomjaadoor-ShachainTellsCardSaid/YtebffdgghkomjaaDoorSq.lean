/- Shachain, plainly: what is read of a store's bytes; few are kept. No program in sight. -/
import Derived.Test.YtebffdgghkomjaaDoorSc2
import Derived.Test.YtebffdgghkomjaaDoorSs
namespace Go.Proofs.YtebffdgghkomjaaDoor
open Go Go.RowKit Go.Lib Ckp Cfd Cpd Sx
set_option linter.unusedVariables false
set_option linter.unusedSimpArgs false
theorem hK_tab (p : Int) (a : Nat → Int) : tabI (hK (p :: tabI a 32)) 32 = tabI a 32 := by kernel_rfl
theorem tab_ext {f g : Nat → Int} : ∀ n : Nat, (∀ i, i < n → f i = g i) → tabI f n = tabI g n
 | 0, _ => rfl
 | n + 1, h => by rw [tabI, tabI, tab_ext n (fun i hi => h i (by omega)), h n (by omega)]
theorem tab_hash {l : List Int} (h : l.length = 32) : tabI (hashF l) 32 = l := by
 rw [tab_ext (g := fun i => l.getD i 0) 32 (fun i hi => ?_), tab_self h]
 unfold hashF
 rw [show Nat.blt i l.length = true by rw [Nat.blt_eq]; omega]; rfl
/-- Few are kept. -/
theorem stC_few {W : OW} {n : Int} {L : List (List (List Int))} {K : Int → Nat → Int} (I : InvS W n L K) (hn : n ≤ 200) : stC L 21 ≤ 8 := by
 have no : ∀ i, 8 ≤ i → i < 21 → rdS n i = false := fun i h1 h2 => by
  cases r : rdS n i
  ·rfl
  ·exfalso
   obtain ⟨H, b1, b2, b3⟩ := rd_spec I.lo h2 r
   rcases H with ⟨h3, e⟩ | ⟨h3, e⟩
   ·rcases lev h3 with rfl | rfl | rfl | rfl | rfl | rfl | rfl | rfl | rfl | rfl | rfl | rfl | rfl | rfl | rfl | rfl | rfl | rfl | rfl | rfl <;> simp only [Int.reducePow, Nat.reduceAdd] at e <;> omega
   ·omega
 have key : ∀ k, k ≤ 21 → stC L k ≤ min k 8 := by
  intro k
  induction k with
  | zero => intro _; exact Nat.zero_le _
  | succ k ih =>
   intro hk
   have ih := ih (by omega)
   have e : stC L (k + 1) = stC L k + (L.getD k []).length := by
    unfold stC
    rw [List.take_add_one, List.getElem?_eq_getElem (by rw [I.len]; omega), List.map_append, List.sum_append, List.getD_eq_getElem?_getD, List.getElem?_eq_getElem (by rw [I.len]; omega)]
    simp
   rw [e, I.ent k (by omega)]
   by_cases q : k < 8
   ·have : (bif rdS n k then [lstP n k :: tabI (K (lstP n k)) 32] else []).length ≤ 1 := by cases rdS n k <;> simp
    omega
   ·rw [no k (by omega) (by omega)]
    simp only [cond_false, List.length_nil]
    omega
 exact Nat.le_trans (key 21 (by omega)) (by omega)
end Go.Proofs.YtebffdgghkomjaaDoor
