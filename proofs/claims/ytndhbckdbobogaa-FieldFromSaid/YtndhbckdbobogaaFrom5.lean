/- The walk of FieldFrom: a sum that is one more comes to one more. -/
import Derived.Test.YtndhbckdbobogaaRefF
import Derived.Deep.WholeRow
namespace Go.Proofs.Ytndhbckdbobogaa
open Go.RowKit Go.Lib Cfd Ckp
set_option linter.unusedVariables false

/-- The bytes behind k steps: noughts for the ones that were at the end. -/
@[irreducible] def car (l : List Nat) (j : Nat) : List Nat := l.take j ++ List.replicate (32 - j) 0
theorem car_len (l : List Nat) (h : l.length = 32) (j : Nat) (hj : j ≤ 32) : (car l j).length = 32 := by unfold car; simp; omega
theorem car_32 (l : List Nat) (h : l.length = 32) : car l 32 = l := by unfold car; simp; exact List.take_of_length_le (by omega)
theorem car_get (l : List Nat) (h : l.length = 32) (j : Nat) (hj : j < 32) : (car l (j + 1)).getD j 0 = l.getD j 0 := by
  unfold car
  rw [List.getD_eq_getElem?_getD, List.getD_eq_getElem?_getD, List.getElem?_append_left (by simp; omega), List.getElem?_take]
  simp
theorem bcs_set (l : List Nat) (k b : Nat) : (bcs l).setIfInBounds k (.int .u8 (b : Nat)) = bcs (l.set k b) := by
  unfold bcs; simp [List.map_set]
theorem car_set (l : List Nat) (h : l.length = 32) (j : Nat) (hj : j < 32) : (car l (j + 1)).set j 0 = car l j := by
  unfold car
  apply List.ext_getElem
  · simp; omega
  · intro i h1 h2
    simp only [List.length_append, List.length_set, List.length_take, List.length_replicate] at h1 h2
    rw [List.getElem_set]
    by_cases hi : j = i
    · subst hi
      rw [if_pos rfl, List.getElem_append_right (by simp; omega)]
      simp
    · rw [if_neg hi]
      by_cases hlt : i < j
      · rw [List.getElem_append_left (by simp; omega), List.getElem_append_left (by simp; omega)]
        simp
      · rw [List.getElem_append_right (by simp; omega), List.getElem_append_right (by simp; omega)]
        simp
theorem take_one (l : List Nat) (i : Nat) (h : i < l.length) : l.take (i + 1) = l.take i ++ [l.getD i 0] := by
  rw [List.take_add_one, List.getD_eq_getElem?_getD, List.getElem?_eq_getElem h]; rfl
theorem car_next (l : List Nat) (h : l.length = 32) (i b : Nat) (hi : i < 32) : (car l (i + 1)).set i b = l.take i ++ b :: List.replicate (31 - i) 0 := by
  unfold car
  rw [take_one l i (by omega), List.append_assoc, List.set_append_right _ _ (by simp; omega)]
  rw [List.length_take, Nat.min_eq_left (by omega), Nat.sub_self, show 32 - (i + 1) = 31 - i from by omega]
  rfl
theorem split_at (l : List Nat) (h : l.length = 32) (i : Nat) (hi : i < 32) (hall : ∀ k, i + 1 ≤ k → k < 32 → l.getD k 0 = 255) : l = l.take i ++ l.getD i 0 :: List.replicate (31 - i) 255 := by
  apply List.ext_getElem
  · simp; omega
  · intro k h1 h2
    by_cases hk : k < i
    · rw [List.getElem_append_left (by simp; omega)]; simp
    · rw [List.getElem_append_right (by simp; omega)]
      simp only [List.length_take, Nat.min_eq_left (show i ≤ l.length by omega)]
      rcases Nat.eq_zero_or_pos (k - i) with h0 | h0
      · have : k = i := by omega
        subst this
        simp [List.getD_eq_getElem?_getD, List.getElem?_eq_getElem h1]
      · obtain ⟨q, hq⟩ : ∃ q, k - i = q + 1 := ⟨k - i - 1, by omega⟩
        simp only [hq, List.getElem_cons_succ, List.getElem_replicate]
        have := hall k (by omega) (by omega)
        rw [List.getD_eq_getElem?_getD, List.getElem?_eq_getElem h1] at this
        simpa using this
theorem bcs_one (l : List Nat) : (bcs l).all (·.oneCell') = true := by unfold bcs; simp [Value.oneCell']
theorem ffrom_nz (l : List Nat) : ((ffrom l : Int) == 0) = false := by have := ffrom_pos l; simp; omega

set_option maxRecDepth 100000 in
theorem walk_from5 (l : List Nat) (h32 : l.length = 32) (hl : ∀ i, l.getD i 0 < 256) (w : World) :
    Calls Try.prog 7 #[B8 l] w fun e w' => e = .returned (.bool true) ∧ Kp w w' := by
  have hK0 := (Kp.refl w).alloc (.cells (bcs l) 25)
  have hsz : (Try.prog.info? 25).map (·.size) = some (bcs l).size := by rw [bcs_size, h32]; exact Try.info25
  have HSZ := Lib.hid hsz
  have HB := Lib.hid (And.intro h32 hl)
  have hrow0 := heap_alloc_new w (.cells (bcs l) 25)
  have hr := r_right (ffrom_lt l)
  have hz := ffrom_nz l
  clear hsz h32 hl
  go_enter Try.func7, Try.ntmps7
  go_wp2_with fail
  refine (small5 _).mono ?_
  rintro e w1 ⟨rfl, hK⟩
  have hrow := (hK.block (k := w.heap.size) (by simp)).trans hrow0
  have HR := Lib.hid hrow
  replace hK := hK0.trans hK
  clear hK0 hrow hrow0
  go_wp2_with (refine load_row rfl 25 _ rfl w.heap.size rfl 25 _ _ _ HR.out Try.underlying25 rfl HSZ.out ?_)
  refine (from_any _ HB.out.1 HB.out.2 _).mono ?_
  rintro e w2 ⟨rfl, hK2⟩
  have hrow := (hK2.block (row_lt HR.out)).trans HR.out
  replace hK := hK.trans hK2
  clear hK2 HR
  have HR := Lib.hid hrow
  clear hrow
  go_wp2_with (first
    | (go_at_call 18; refine (right_any _ _).mono ?_; rintro e w' ⟨rfl, rfl⟩)
    | (refine load_row rfl 25 _ rfl w.heap.size rfl 25 _ _ _ HR.out Try.underlying25 rfl HSZ.out ?_)
    | (refine store_row rfl 25 _ _ rfl w2.heap.size rfl (bcs l) rfl 25 _ (heap_alloc_new w2 _) HSZ.out (by rw [bcs_size, HB.out.1]; rfl) (bcs_one l) ?_))
  rw [World.setRow_alloc_new]
  have hK3 : Kp w (w2.alloc (.cells (bcs l) 25)) := hK.alloc _
  have hg : w.heap.size ≤ w2.heap.size := hK.size
  have HK3 := Lib.hid hK3
  have HN := Lib.hid (heap_alloc_new w2 (.cells (bcs l) 25))
  clear hK hK3 HR
  go_loopw [6] (fun kv wr => ∃ j : Nat, j ≤ 32 ∧ (∀ i, j ≤ i → i < 32 → l.getD i 0 = 255) ∧ wr.heap[w2.heap.size]? = some (.cells (bcs (car l j)) 25 (0, 0)) ∧ Kp w wr ∧ kv = .int .i64 ((j : Int) - 1)) (fun kv _ => (intOf kv + 1).toNat)
  case atStart => exact ⟨32, by omega, fun i h1 h2 => absurd h2 (by omega), by rw [car_32 l HB.out.1]; exact HN.out, HK3.out, by go_num⟩
  case round =>
    obtain ⟨j, hj, hall, hrow, hKr, rfl⟩ := hrel
    by_cases hz0 : j = 0
    · subst hz0
      have HKr := Lib.hid hKr
      clear hKr hrow hall
      go_wp2_with fail
      go_ret
      exact ⟨rfl, HKr.out⟩
    · obtain ⟨i, rfl⟩ : ∃ i, j = i + 1 := ⟨j - 1, by omega⟩
      have hi : ((i + 1 : Nat) : Int) - 1 = (i : Int) := by omega
      rw [hi]
      have hbx := HB.out.2 i
      have hcg := bcs_get (car l (i + 1)) i (by rw [car_len l HB.out.1 _ hj]; omega)
      have hcx : (car l (i + 1))[i]'(by rw [car_len l HB.out.1 _ hj]; omega) = l.getD i 0 := by
        rw [← car_get l HB.out.1 i (by omega), List.getD_eq_getElem?_getD, List.getElem?_eq_getElem (by rw [car_len l HB.out.1 _ hj]; omega)]; rfl
      rw [hcx] at hcg
      have hc : wr.cell? ⟨w2.heap.size, i, none⟩ = some (.int .u8 (l.getD i 0 : Nat)) := by rw [cell_of_row _ _ _ _ _ _ hrow]; exact hcg
      have hf : wr.frozen? ⟨w2.heap.size, i, none⟩ = false := frozen_of_row _ _ _ _ _ hrow
      have hset : ∀ b : Nat, (wr.setCell ⟨w2.heap.size, i, none⟩ (.int .u8 (b : Nat))).heap[w2.heap.size]? = some (.cells (bcs ((car l (i + 1)).set i b)) 25 (0, 0)) := by
        intro b
        rw [← bcs_set]; exact heap_setCell_same _ _ _ _ _ _ hrow
      have hKs : ∀ v, Kp w (wr.setCell ⟨w2.heap.size, i, none⟩ v) := fun v => hKr.setCell hg v
      have HSet := Lib.hid hset
      have HKs := Lib.hid hKs
      have HAll := Lib.hid hall
      obtain ⟨x, hx⟩ : ∃ x, x = l.getD i 0 := ⟨_, rfl⟩
      rw [← hx] at hbx hc
      have HX := Lib.hid hx
      clear hi hz0 hcg hcx hset hKs hall hx hrow hKr
      by_cases h255 : x = 255
      · subst h255
        go_wp2_with fail
        go_roundw
        case rel => exact ⟨i, by omega, fun k h1 h2 => by
            rcases Nat.eq_or_lt_of_le h1 with h3 | h3
            · rw [← h3]; exact HX.out.symm
            · exact HAll.out k h3 h2, by rw [← car_set l HB.out.1 i (by omega)]; exact HSet.out 0, HKs.out _, rfl⟩
        case measure => simp [intOf]
      · have hne : ((x : Int) == 255) = false := by simp; omega
        have hsp := split_at l HB.out.1 i (by omega) HAll.out
        have hnx := car_next l HB.out.1 i (x + 1) (by omega)
        rw [← HX.out] at hsp
        obtain ⟨m, hm⟩ : ∃ m, m = (car l (i + 1)).set i (x + 1) := ⟨_, rfl⟩
        have hml : m.length = 32 := by rw [hm, List.length_set, car_len l HB.out.1 _ hj]
        rw [← hm] at hnx
        have hmb : ∀ k, m.getD k 0 < 256 := by
          intro k
          rw [hnx, List.getD_eq_getElem?_getD, List.getElem?_append]
          split
          · rename_i hk
            have := HB.out.2 k
            rw [List.getD_eq_getElem?_getD] at this
            rw [List.getElem?_take]
            split
            · exact this
            · decide
          · cases hq : k - (l.take i).length with
            | zero => simp; omega
            | succ q => rw [List.getElem?_cons_succ, List.getElem?_replicate]; split <;> simp
        have hrow2 := HSet.out (x + 1)
        rw [← hm] at hrow2
        have HRow := Lib.hid hrow2
        have HM := Lib.hid (And.intro hml hmb)
        have hsz2 : (Try.prog.info? 25).map (·.size) = some (bcs m).size := by rw [bcs_size, hml]; exact Try.info25
        have HSZ2 := Lib.hid hsz2
        have hcase : (ffrom m = ffrom l + 1) ∨ (ffrom m = 1 ∧ ffrom l = 2305843009213688668) := by
          unfold ffrom
          by_cases hin : ffold l + 1 < 2305843009213688668
          · left
            rw [hsp] at hin
            have := ffold_inc _ _ _ hin
            rw [← hnx, ← hsp] at this
            rw [this]
          · right
            rw [hsp] at hin
            have := ffold_wrap _ _ _ hin
            rw [← hnx, ← hsp] at this
            exact ⟨by rw [this.1], by rw [this.2]⟩
        have hlt := ffrom_lt l
        clear hsp hnx hm hml hmb hrow2 hsz2 HSet HAll
        go_wp2_with (refine load_row rfl 25 _ rfl w2.heap.size rfl 25 _ _ _ HRow.out Try.underlying25 rfl HSZ2.out ?_)
        refine (from_any _ HM.out.1 HM.out.2 _).mono ?_
        rintro e w3 ⟨rfl, hK4⟩
        have hK5 := (HKs.out (.int .u8 ((x + 1 : Nat) : Int))).trans hK4
        have HK5 := Lib.hid hK5
        clear hK4 hK5 HKs HRow
        rcases hcase with he | ⟨he, he2⟩
        · have hq : ((ffrom m : Int) == (ffrom l : Int) + 1) = true := by simp; omega
          clear he
          go_wp2_with fail
          go_ret
          exact ⟨rfl, HK5.out⟩
        · have hq : ((ffrom m : Int) == (ffrom l : Int) + 1) = false := by simp; omega
          have hq2 : ((ffrom l : Int) == 2305843009213688668) = true := by simp; omega
          have hq3 : ((ffrom m : Int) == 1) = true := by simp; omega
          clear he he2
          go_wp2_with fail
          go_ret
          exact ⟨rfl, HK5.out⟩
end Go.Proofs.Ytndhbckdbobogaa
