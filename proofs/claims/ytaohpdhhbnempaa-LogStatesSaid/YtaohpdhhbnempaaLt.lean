/- Log, plainly: the rows of a torn disk. No program in sight. -/
import Derived.Test.YtaohpdhhbnempaaLp
namespace Go.Proofs.Ytaohpdhhbnempaa
open Go Go.RowKit Go.Lib Ckp Cfd Cpd Sx
set_option linter.unusedVariables false
set_option linter.unusedSimpArgs false
/-- The bytes of the first k rows. -/
def tnB (O : OO) (R : OB) (a : List (List Int)) (k : Nat) : List Int := rowsB O R (a.take k)
theorem rowsB_app {O : OO} {R : OB} : ∀ xs ys : List (List Int), rowsB O R (xs ++ ys) = rowsB O R xs ++ rowsB O R ys
 | [], ys => rfl
 | x :: xs, ys => by rw [List.cons_append, rowsB, rowsB, rowsB_app xs ys, List.append_assoc]
theorem tnB_succ {O : OO} {R : OB} {a : List (List Int)} {k : Nat} (h : k < a.length) : tnB O R a (k + 1) = tnB O R a k ++ lgRow O R (a.getD k []) := by
 have hg : a[k]? = some (a.getD k []) := by rw [List.getD_eq_getElem?_getD, List.getElem?_eq_getElem h]; rfl
 unfold tnB
 rw [List.take_add_one, hg, rowsB_app]
 show _ ++ (lgRow O R _ ++ []) = _
 rw [List.append_nil]
theorem tnB_byB {O : OO} (hS : SB O) {R : OB} (hr : R = bO) : ∀ {l : List (List Int)}, (∀ x ∈ l, byB x = true) → byB (rowsB O R l) = true
 | [], _ => rfl
 | x :: xs, h => by
  rw [rowsB, byB_app, lg_byB hS hr (h x (List.mem_cons_self ..)), tnB_byB hS hr fun y hy => h y (List.mem_cons_of_mem _ hy)]; rfl
/-- The rows of a torn disk. -/
theorem torn_found {O : OO} (hS : SB O) {R : OB} (hr : R = bO) {l : List (List Int)} (hb : ∀ x ∈ l, byB x = true) (hl : ∀ x ∈ l, x.length ≤ 100) {n m : Nat} (hm : m ≤ l.length) (h1 : ∀ j, j < m → (tnB O R l (j + 1)).length ≤ n) (h2 : m = l.length ∨ n < (tnB O R l (m + 1)).length) :
  lgRows O R ((tnB O R l l.length).take n) = l.take m ∧ lgEnd O R ((tnB O R l l.length).take n) = (tnB O R l m).length ∧ (tnB O R l m).length ≤ n := by
 have e0 : tnB O R l l.length = tnB O R l m ++ rowsB O R (l.drop m) := by
  unfold tnB
  rw [List.take_length, ← rowsB_app, List.take_append_drop]
 have hn : (tnB O R l m).length ≤ n := by
  cases m with
  | zero => exact Nat.zero_le _
  | succ j => exact h1 j (Nat.lt_succ_self _)
 have e1 : (tnB O R l l.length).take n = rowsB O R (l.take m) ++ (rowsB O R (l.drop m)).take (n - (tnB O R l m).length) := by
  rw [e0, List.take_append, List.take_of_length_le hn]; rfl
 have hT : Torn O R ((rowsB O R (l.drop m)).take (n - (tnB O R l m).length)) := by
  rcases h2 with h2 | h2
  ·rw [List.drop_of_length_le (by omega)]
   show Torn O R (([] : List Int).take _)
   rw [List.take_nil]
   exact torn_nil hr
  ·by_cases q : m = l.length
   ·rw [List.drop_of_length_le (by omega)]
    show Torn O R (([] : List Int).take _)
    rw [List.take_nil]
    exact torn_nil hr
   have hm' : m < l.length := by omega
   have eg : l.getD m [] = l[m] := by rw [List.getD_eq_getElem?_getD, List.getElem?_eq_getElem hm']; rfl
   rw [tnB_succ hm', List.length_append, eg] at h2
   rw [List.drop_eq_getElem_cons hm', rowsB, List.take_append_of_le_length (by omega)]
   exact ⟨l[m], _, by have := hl l[m] (List.getElem_mem hm'); omega, by omega, rfl⟩
 have hby : byB ((rowsB O R (l.drop m)).take (n - (tnB O R l m).length)) = true := byB_take (tnB_byB hS hr fun x hx => hb x (List.mem_of_mem_drop hx)) _
 have key := lg_found hS hr (xs := l.take m) (fun x hx => ⟨hb x (List.mem_of_mem_take hx), by have := hl x (List.mem_of_mem_take hx); omega⟩) hby hT
 rw [e1]
 exact ⟨key.1, key.2, hn⟩
theorem rowsB_le {O : OO} {R : OB} (hrl : ∀ x : List Int, x.length ≤ 100 → (lgRow O R x).length ≤ 118) : ∀ {l : List (List Int)}, (∀ x ∈ l, x.length ≤ 100) → (rowsB O R l).length ≤ 118 * l.length
 | [], _ => Nat.le_refl _
 | x :: xs, h => by
  have h1 := hrl x (h x (List.mem_cons_self ..))
  have h2 := rowsB_le hrl (l := xs) fun y hy => h y (List.mem_cons_of_mem _ hy)
  rw [rowsB, List.length_append, List.length_cons]; omega
end Go.Proofs.Ytaohpdhhbnempaa
