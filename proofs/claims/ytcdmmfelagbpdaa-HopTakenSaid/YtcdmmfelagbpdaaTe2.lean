/- Contracts of package terms and its reference: points. -/
import Derived.Test.YtcdmmfelagbpdaaTe1
namespace Go.Proofs.Ytcdmmfelagbpdaa
open Go.RowKit Go.Lib Ckp Cfd Cpd
set_option linter.unusedVariables false
set_option maxRecDepth 8192
set_option linter.unusedSimpArgs false

@[irreducible] def pown (a : Nat) : Bool := pright a && decide (a ≠ 1)
theorem wrong_any (a : Nat) (ha : a < 18446744073709551616) (w : World) : Calls Try.prog 75 #[.int .u64 a] w fun e w' => e = .returned (.bool (!pown a)) ∧ ∃ k, w' = w.drewN k := by
 go_enter Try.func75, Try.ntmps75
 by_cases h : a = 1
 ·subst h
  go_wp2_with fail
  go_ret
  exact ⟨by simp [pown], 0, rfl⟩
 ·have h' : ¬ (a : Int) = 1 := by omega
  have hd : ((a : Int) == 1) = false := by simpa using h'
  have hp : pown a = pright a := by simp [pown, h]
  rw [hp]
  clear hp h
  go_wp2_with (go_at_call 65; refine (pright_any _ ha _).mono ?_; rintro e w' ⟨rfl, n, rfl⟩)
  go_ret
  exact ⟨rfl, _, rfl⟩
theorem rown_any (a : Nat) (w : World) : Calls Try.prog 49 #[.int .u64 a] w fun e w' => e = .returned (.bool (pown a)) ∧ w = w' := by
 have hd : ((a : Int) != 1) = decide (a ≠ 1) := by
  by_cases h : a = 1
  ·subst h; rfl
  ·have h' : ¬ (a : Int) = 1 := by omega
   simp [h, h']
 have hp : pown a = (pright a && decide (a ≠ 1)) := by unfold pown; rfl
 obtain ⟨x, hx⟩ : ∃ x, x = decide (a ≠ 1) := ⟨_, rfl⟩
 rw [← hx] at hd hp
 rw [hp]
 clear hp hx
 go_enter Try.func49, Try.ntmps49
 have HR := Lib.hid (fun w => rpright_any a w)
 obtain ⟨y, hy⟩ : ∃ y, pright a = y := ⟨_, rfl⟩
 rw [hy] at HR ⊢
 clear hy
 cases y
 all_goals go_wp2_with (go_at_call 77; refine (HR.out _).mono ?_; rintro e w' ⟨rfl, rfl⟩)
 all_goals go_ret
 all_goals refine ⟨?_, rfl⟩
 all_goals (simp only [Bool.false_and, Bool.true_and]; rfl)

theorem index_any (A : Option Addr) (n c : Nat) (l : List Nat) (hn : l.length = n) (hm : n ≤ 9223372036854775807) (hb : ∀ i, l.getD i 0 < 18446744073709551616) (w : World) (hp : Pts w A l) :
  Calls Try.prog 97 #[.slice A n c, .func (.func 75) #[] #[]] w
   fun e w' => ∃ z : Int, e = .returned (.int .i64 z) ∧ decide (0 ≤ z) = !(l.all pown) ∧ -1 ≤ z ∧ z ≤ n ∧ ∃ k, w' = w.drewN k := by
 have HP := Lib.hid hp
 have HB := Lib.hid hb
 have HN := Lib.hid hn
 clear hp hb hn
 go_enter Try.func97, Try.ntmps97
 go_wp2_with fail
 go_loopw [8] (fun iv wr => ∃ k j : Nat, k ≤ n ∧ (l.take k).all pown = true ∧ iv = .int .i64 (k : Int) ∧ wr = w.drewN j) (fun iv _ => n - (intOf iv).toNat)
 case atStart => exact ⟨0, 0, by omega, rfl, rfl, rfl⟩
 case round =>
  obtain ⟨k, j, hk, hi, rfl, rfl⟩ := hrel
  have HI := Lib.hid hi
  clear hi
  by_cases hlt : k < n
  ·obtain ⟨ad, rfl, hbl, hc⟩ := HP.out (by rw [HN.out]; omega)
   have hck := hc k (by rw [HN.out]; exact hlt)
   have hbk := HB.out k
   have hlk : k < l.length := by rw [HN.out]; exact hlt
   have HS := Lib.hid (show l.take (k + 1) = l.take k ++ [l.getD k 0] by rw [List.take_add_one, List.getElem?_eq_getElem hlk, List.getD_eq_getElem?_getD, List.getElem?_eq_getElem hlk]; rfl)
   have HM := Lib.hid (show l.getD k 0 ∈ l by rw [List.getD_eq_getElem?_getD, List.getElem?_eq_getElem hlk]; exact List.getElem_mem hlk)
   obtain ⟨x, hx⟩ : ∃ x, x = l.getD k 0 := ⟨_, rfl⟩
   rw [← hx] at hck hbk HS HM
   clear hx hc hlk
   have HW := Lib.hid (fun w => wrong_any x hbk w)
   obtain ⟨y, hy⟩ : ∃ y, pown x = y := ⟨_, rfl⟩
   rw [hy] at HW
   have HY := Lib.hid hy
   clear hy hbk
   cases y
   ·go_wp2_with (go_at_call 75; refine (HW.out _).mono ?_; rintro e w' ⟨rfl, n, rfl⟩)
    go_ret
    refine ⟨k, rfl, ?_, by omega, by omega, _, rfl⟩
    have hall : l.all pown = false := by
     rw [List.all_eq_false]; exact ⟨x, HM.out, by rw [HY.out]; decide⟩
    rw [hall]; simp
   ·go_wp2_with (go_at_call 75; refine (HW.out _).mono ?_; rintro e w' ⟨rfl, n, rfl⟩)
    go_roundw
    case rel => exact ⟨k + 1, _, by omega, by rw [HS.out, List.all_append, HI.out]; simp [HY.out], by go_num, rfl⟩
    case measure => simp [intOf]; omega
  ·have hfin : l.all pown = true := by rw [← HI.out, List.take_of_length_le (by rw [HN.out]; omega)]
   have HF := Lib.hid hfin
   clear hfin
   go_wp2_with fail
   go_ret
   exact ⟨-1, rfl, by rw [HF.out]; decide, by omega, by omega, j, rfl⟩
theorem contains_any (A : Option Addr) (n c : Nat) (l : List Nat) (hn : l.length = n) (hm : n ≤ 9223372036854775807) (hb : ∀ i, l.getD i 0 < 18446744073709551616) (w : World) (hp : Pts w A l) :
  Calls Try.prog 76 #[.slice A n c, .func (.func 75) #[] #[]] w
   fun e w' => e = .returned (.bool (!(l.all pown))) ∧ ∃ k, w' = w.drewN k := by
 have HI := Lib.hid (index_any A n c l hn hm hb w hp)
 obtain ⟨y, hy⟩ : ∃ y, y = !(l.all pown) := ⟨_, rfl⟩
 rw [← hy] at HI ⊢
 clear hy
 go_enter Try.func76, Try.ntmps76
 go_wp2_with (go_at_call 97; refine (HI.out).mono ?_; rintro e w' ⟨z, rfl, hz, hz1, hz2, k, rfl⟩)
 go_ret
 exact ⟨by first | rfl | (rw [← hz]; rfl), _, rfl⟩

theorem pts_five (w : World) (a b c d f : Nat) (t : TypeId) : Pts (w.alloc (.cells #[.int .u64 (a : Int), .int .u64 (b : Int), .int .u64 (c : Int), .int .u64 (d : Int), .int .u64 (f : Int)] t)) (some ⟨w.heap.size, 0, none⟩) [a, b, c, d, f] := by
 intro _
 refine ⟨_, rfl, by simp, fun j hj => ?_⟩
 have hj' : j = 0 ∨ j = 1 ∨ j = 2 ∨ j = 3 ∨ j = 4 := by simp at hj; omega
 rcases hj' with rfl | rfl | rfl | rfl | rfl
 ·show World.cell? _ ⟨w.heap.size, 0, none⟩ = _
  rw [cell_of_row _ _ _ _ _ _ (heap_alloc_new w _)]; rfl
 ·show World.cell? _ ⟨w.heap.size, 1, none⟩ = _
  rw [cell_of_row _ _ _ _ _ _ (heap_alloc_new w _)]; rfl
 ·show World.cell? _ ⟨w.heap.size, 2, none⟩ = _
  rw [cell_of_row _ _ _ _ _ _ (heap_alloc_new w _)]; rfl
 ·show World.cell? _ ⟨w.heap.size, 3, none⟩ = _
  rw [cell_of_row _ _ _ _ _ _ (heap_alloc_new w _)]; rfl
 ·show World.cell? _ ⟨w.heap.size, 4, none⟩ = _
  rw [cell_of_row _ _ _ _ _ _ (heap_alloc_new w _)]; rfl
theorem five_lt {a b c d f : Nat} (ha : a < 18446744073709551616) (hb : b < 18446744073709551616) (hc : c < 18446744073709551616) (hd : d < 18446744073709551616) (hf : f < 18446744073709551616) : ∀ i, [a, b, c, d, f].getD i 0 < 18446744073709551616 := by
 intro i
 match i with
 | 0 => exact ha
 | 1 => exact hb
 | 2 => exact hc
 | 3 => exact hd
 | 4 => exact hf
 | i + 5 => simp
theorem contains_new (a b c d f : Nat) (ha : a < 18446744073709551616) (hb : b < 18446744073709551616) (hc : c < 18446744073709551616) (hd : d < 18446744073709551616) (hf : f < 18446744073709551616) (w : World) (t : TypeId) (n : Nat) :
  Calls Try.prog 76 #[.slice (some ⟨w.heap.size, 0, none⟩) 5 n, .func (.func 75) #[] #[]] (w.alloc (.cells #[.int .u64 (a : Int), .int .u64 (b : Int), .int .u64 (c : Int), .int .u64 (d : Int), .int .u64 (f : Int)] t))
   fun e w' => e = .returned (.bool (!([a, b, c, d, f].all pown))) ∧ ∃ k, w' = (w.alloc (.cells #[.int .u64 (a : Int), .int .u64 (b : Int), .int .u64 (c : Int), .int .u64 (d : Int), .int .u64 (f : Int)] t)).drewN k :=
 contains_any _ 5 n [a, b, c, d, f] rfl (by decide) (five_lt ha hb hc hd hf) _ (pts_five w a b c d f t)
theorem points_any (a b c d f : Nat) (ha : a < 18446744073709551616) (hb : b < 18446744073709551616) (hc : c < 18446744073709551616) (hd : d < 18446744073709551616) (hf : f < 18446744073709551616) (w : World) :
  Calls Try.prog 48 #[.agg #[.int .u64 (a : Int), .int .u64 (b : Int), .int .u64 (c : Int), .int .u64 (d : Int), .int .u64 (f : Int)]] w
   fun e w' => e = .returned (.bool ([a, b, c, d, f].all pown)) ∧ ∃ o1 o2 k, w' = ((w.alloc o1).alloc o2).drewN k := by
 have HA := Lib.hid (fun (w : World) (t : TypeId) (n : Nat) (g : Nat) (hg : g = w.heap.size) => show Calls Try.prog 76 #[.slice (some ⟨g, 0, none⟩) 5 n, .func (.func 75) #[] #[]] (w.alloc (.cells #[.int .u64 (a : Int), .int .u64 (b : Int), .int .u64 (c : Int), .int .u64 (d : Int), .int .u64 (f : Int)] t))
   fun e w' => e = .returned (.bool (!([a, b, c, d, f].all pown))) ∧ ∃ k, w' = (w.alloc (.cells #[.int .u64 (a : Int), .int .u64 (b : Int), .int .u64 (c : Int), .int .u64 (d : Int), .int .u64 (f : Int)] t)).drewN k from hg ▸ contains_new a b c d f ha hb hc hd hf w t n)
 obtain ⟨y, hy⟩ : ∃ y, y = [a, b, c, d, f].all pown := ⟨_, rfl⟩
 rw [← hy] at HA ⊢
 clear hy
 go_enter Try.func48, Try.ntmps48
 go_wp2_with (go_at_call 76; refine (HA.out _ _ _ _ (by first | rfl | simp)).mono ?_; rintro e w' ⟨rfl, k, rfl⟩)
 go_ret
 refine ⟨?_, _, _, _, rfl⟩
 simp
end Go.Proofs.Ytcdmmfelagbpdaa
