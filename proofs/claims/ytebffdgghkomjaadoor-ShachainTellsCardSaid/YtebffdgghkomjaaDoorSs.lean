/- Shachain: the machine's reading of the table; stores of a seed's secrets. -/
import Derived.Test.YtebffdgghkomjaaDoorSp
namespace Go.Proofs.YtebffdgghkomjaaDoor
open Go Go.RowKit Go.Lib Ckp Cfd Cpd Sx
set_option linter.unusedVariables false
set_option linter.unusedSimpArgs false
/-- The machine's reading: the table of math/bits stands. -/
def IT : Sx.Interp := ⟨fun _ _ _ _ _ => False, fun _ _ _ _ _ _ _ h => h, fun w => TabAt 1 Lib.deBruijn64tab w, fun b => b = 1, fun w w' h hT => fun j hj => by
 rw [← hT j hj]
 unfold World.cell?
 rw [h _ rfl]⟩
theorem tz_IT : Tz IT := fun _ h => h
theorem isH_oo {a : Array Value} (h : isHa a = true) : oo.isH a = true := by
 have e : oo.isH a = isHa a := by kernel_rfl
 rw [e]; exact h
theorem bcs_AV (l : List Nat) (h1 : l.length = 32) (h2 : ∀ i, l.getD i 0 < 256) : ∃ m : Nat → Int, bcs l = AV m ∧ isHa (AV m) = true := by
 have e : bcs l = ⟨(l.map fun n : Nat => (n : Int)).map (Value.int .u8)⟩ := by unfold bcs; apply Array.ext'; simp
 have hh : isHa (bcs l) = true := by
  rw [e]
  refine isHa_AV (by simpa using h1) fun x hx => ?_
  obtain ⟨n, hn, rfl⟩ := List.mem_map.1 hx
  obtain ⟨i, hi, rfl⟩ := List.mem_iff_getElem.1 hn
  have := h2 i
  rw [List.getD_eq_getElem?_getD, List.getElem?_eq_getElem hi] at this
  simp only [Option.getD_some] at this
  omega
 obtain ⟨m, hm⟩ := isH_AV hh
 exact ⟨m, hm, hm ▸ hh⟩
theorem sec_eq {n : Int} {a : Array Value} (W : OW) (h : secB n = false) : secF' W n a = W.cm 20 (1048575 - n) a := by funext i; unfold secF'; rw [h]; rfl
theorem secB_f {n : Int} : secB n = false ↔ 0 ≤ n ∧ n < 1048576 := by
 unfold secB
 cases c : iLt n 0
 ·simp only [iLt_f] at c; rw [cond_false, iLe_f]; omega
 ·simp only [iLt_t] at c; rw [cond_true]; simp; omega
/-- A store of a seed's secrets. -/
def sdL (W : OW) (a : Array Value) : Nat → List (List (List Int))
 | 0 => nilL
 | j + 1 => stL W (j : Int) (sdL W a j) (j : Int) (AV (secF' W (j : Int) a))
theorem sdL_inv {O : OO} {W : OW} (hw : W = wO O) (a : Array Value) (j : Nat) (h : (j : Int) ≤ 1048576) : InvS W (j : Int) (sdL W a j) fun q => W.cm 20 q a := by
 induction j with
 | zero => exact inv_nil W _
 | succ j ih =>
  have hj : (j : Int) < 1048576 := by omega
  have I := ih (by omega)
  have := seed_next hw I hj
  have e : ((j + 1 : Nat) : Int) = (j : Int) + 1 := by omega
  rw [e]
  unfold sdL
  rw [sec_eq W (secB_f.2 (by omega))]
  exact this
theorem sd_inv {O : OO} {W : OW} (hw : W = wO O) (a : Array Value) {j : Int} (h0 : 0 ≤ j) (h1 : j ≤ 1048576) : InvS W j (sdL W a j.toNat) fun q => W.cm 20 q a := by
 have := sdL_inv hw a j.toNat (by omega)
 rwa [Int.toNat_of_nonneg h0] at this
end Go.Proofs.YtebffdgghkomjaaDoor
