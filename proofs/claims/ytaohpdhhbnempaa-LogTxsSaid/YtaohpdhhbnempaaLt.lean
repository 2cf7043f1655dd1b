/- Log, plainly: the rows of a torn disk. No program in sight. -/
import Derived.Test.YtaohpdhhbnempaaLp
namespace Go.Proofs.Ytaohpdhhbnempaa
open Go Go.RowKit Go.Lib Ckp Cfd Cpd Sx
set_option linter.unusedVariables false
set_option linter.unusedSimpArgs false
def tnB (O : OO) (R : OB) (a : List (List Int)) (k : Nat) : List Int := rowsB O R (a.take k)
theorem rowsB_app {O : OO} {R : OB} : ∀ xs ys : List (List Int), rowsB O R (xs ++ ys) = rowsB O R xs ++ rowsB O R ys
 | [], ys => rfl
 | x :: xs, ys => by rw [List.cons_append, rowsB, rowsB, rowsB_app xs ys, List.append_assoc]
theorem tnB_byB {O : OO} (hS : SB O) {R : OB} (hr : R = bO) : ∀ {l : List (List Int)}, (∀ x ∈ l, byB x = true) → byB (rowsB O R l) = true
 | [], _ => rfl
 | x :: xs, h => by
  rw [rowsB, byB_app, lg_byB hS hr (h x (List.mem_cons_self ..)), tnB_byB hS hr fun y hy => h y (List.mem_cons_of_mem _ hy)]; rfl
theorem rowsB_le {O : OO} {R : OB} (hrl : ∀ x : List Int, x.length ≤ 100 → (lgRow O R x).length ≤ 118) : ∀ {l : List (List Int)}, (∀ x ∈ l, x.length ≤ 100) → (rowsB O R l).length ≤ 118 * l.length
 | [], _ => Nat.le_refl _
 | x :: xs, h => by
  have h1 := hrl x (h x (List.mem_cons_self ..))
  have h2 := rowsB_le hrl (l := xs) fun y hy => h y (List.mem_cons_of_mem _ hy)
  rw [rowsB, zlA, List.length_cons]; omega
end Go.Proofs.Ytaohpdhhbnempaa
