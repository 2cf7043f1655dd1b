/- Contract of field.From: a sum's 32 bytes as a number modulo one less than Order, and 1. -/
import Derived.Test.YtheihhjlkefhgaaDoorField
import Derived.Laws.Rows
import Derived.Test.YtheihhjlkefhgaaDoorKp
namespace Go.Proofs.YtheihhjlkefhgaaDoor
open Go.RowKit Go.Lib Cfd Ckp
set_option linter.unusedVariables false

/-- Bytes as cells; a sum of 32 bytes as a value. -/
@[irreducible] def bcs (l : List Nat) : Array Value := (l.map fun b => Value.int .u8 (b : Nat)).toArray
theorem bcs_size (l : List Nat) : (bcs l).size = l.length := by unfold bcs; simp
theorem bcs_get (l : List Nat) (k : Nat) (h : k < l.length) : (bcs l)[k]? = some (.int .u8 (l[k] : Nat)) := by unfold bcs; simp [List.getElem?_eq_getElem h]
abbrev B8 (l : List Nat) : Value := .agg (bcs l)

theorem Tryd.info23 : (Tryd.prog.info? 23).map (·.size) = some 32 := by kernel_rfl
theorem index_hash (l : List Nat) (h32 : l.length = 32) (k : Nat) (hk : k < 32) (w : World) : (Instr.index 23 (.agg (bcs l)) (.int .i64 (k : Int))).run Tryd.prog w = .ok (.int .u8 (l.getD k 0 : Nat)) w := by
 have hg := bcs_get l k (by omega)
 have hd : l.getD k 0 = l[k]'(by omega) := by rw [List.getD_eq_getElem?_getD, List.getElem?_eq_getElem (by omega)]; rfl
 rw [hd]
 have hn : ¬ 32 ≤ k := by omega
 simp [Instr.index, asIntOf, run_underlying Tryd.underlying23, part, go_sem, hg, hn]

theorem rem_fstep (n b : Nat) (hn : n < 2305843009213688668) (hb : b < 256) (w : World) :
  Calls Tryd.prog 28 #[.int .u64 ((n * 256 + b) / 18446744073709551616 : Nat), .int .u64 ((n * 256 + b) % 18446744073709551616 : Nat), .int .u64 2305843009213688668] w fun e w' => e = .returned (.int .u64 (fstep n b : Nat)) ∧ ∃ n, w' = w.drewN n :=
 rem64_q1 _ _ _ (by omega) (Nat.mod_lt _ (by decide)) (Nat.div_add_mod' _ _) w

def nhi (n b : Nat) : Nat := (n * 256 + b) / 18446744073709551616
def nlo (n b : Nat) : Nat := (n * 256 + b) % 18446744073709551616
theorem nhi_eq (n b : Nat) (hn : n < 2305843009213688668) (hb : b < 256) : (n : Int) / 72057594037927936 = (nhi n b : Nat) := by unfold nhi; omega
theorem nlo_eq (n b : Nat) (hn : n < 2305843009213688668) (hb : b < 256) : bits .or .u64 (IntKind.u64.wrap ((n : Int) * 256)) (b : Int) = (nlo n b : Nat) := by
 have h1 : IntKind.u64.wrap ((n : Int) * 256) = ((n % 72057594037927936 * 2 ^ 8 : Nat) : Int) := by rw [IntKind.wrap_u64]; omega
 rw [h1, Mul64.orN 8 _ b (by omega) (by omega)]
 unfold nlo; omega

set_option maxRecDepth 100000 in
theorem from_any (l : List Nat) (h32 : l.length = 32) (hb : ∀ i, l.getD i 0 < 256) (w : World) : Calls Tryd.prog 18 #[B8 l] w fun e w' => e = .returned (.int .u64 (ffrom l : Nat)) ∧ Kp w w' := by
 have hsz : (Tryd.prog.info? 23).map (·.size) = some (bcs l).size := by rw [bcs_size, h32]; exact Tryd.info23
 have hnew := heap_alloc_new w (.cells (bcs l) 23)
 have hix := index_hash l h32
 have HS := Lib.hid hsz
 have HN := Lib.hid hnew
 have HB := Lib.hid hb
 have H32 := Lib.hid h32
 have HX := Lib.hid hix
 clear hsz hnew hb h32 hix
 go_enter Tryd.func18, Tryd.ntmps18
 go_wp2_with (refine wpList_load_row rfl 23 _ rfl w.heap.size rfl 23 _ _ _ HN.out Tryd.underlying23 rfl HS.out ?_)
 go_loopw [3, 5, 7] (fun nv bv iv wr => ∃ k j F : Nat, k ≤ 32 ∧ F = ffold (l.take k) ∧ nv = .int .u64 (F : Int) ∧ iv = .int .i64 (k : Int) ∧ wr = (w.alloc (.cells (bcs l) 23)).drewN j) (fun _ _ iv _ => 32 - (intOf iv).toNat)
 case atStart => exact ⟨0, 0, 0, by omega, rfl, rfl, rfl, rfl⟩
 case round =>
  obtain ⟨k, j, F, hk, hF, rfl, rfl, rfl⟩ := hrel
  by_cases hlt : k < 32
  ·have hb := HB.out k
   have hx := fun w => HX.out k hlt w
   have hl1 : F < 2305843009213688668 := by rw [hF]; exact ffold_lt _
   have hsn := ffold_snoc l k (by rw [H32.out]; exact hlt)
   rw [← hF] at hsn
   obtain ⟨x, hx0⟩ : ∃ x, x = l.getD k 0 := ⟨_, rfl⟩
   rw [← hx0] at hb hsn
   simp only [← hx0] at hx
   have e1 := nhi_eq F x hl1 hb
   have e2 := nlo_eq F x hl1 hb
   have HSn := Lib.hid hsn
   clear hsn hx0 hF
   go_wp2_with (go_at_call 28; refine (rem_fstep _ _ hl1 hb _).mono ?_; rintro e w' ⟨rfl, n, rfl⟩)
   go_roundw
   case rel => exact ⟨k + 1, _, fstep F x, by omega, HSn.out.symm, rfl, by go_num, rfl⟩
   case measure => simp [intOf]; omega
  ·have hk32 : k = 32 := by omega
   have hfin : F + 1 = ffrom l := by rw [hF, hk32, List.take_of_length_le (by rw [H32.out]; omega)]; rfl
   have hl1 := ffold_lt (l.take k)
   rw [← hF] at hl1
   have HFin := Lib.hid hfin
   clear hfin hF hk32
   go_wp2_with fail
   go_ret
   exact ⟨ret_int (by rw [← HFin.out]; rfl), ((Kp.refl _).alloc _).drewN _⟩
end Go.Proofs.YtheihhjlkefhgaaDoor
