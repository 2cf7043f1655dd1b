/- The walk of PointAll: the sum of a row is the sum of its parts', in whatever order. -/
import Derived.Test.YtndhbckdbobogaaTells6
import Derived.Test.YtndhbckdbobogaaOwn
import Derived.Deep.DeepCutAuto
namespace Go.Proofs.Ytndhbckdbobogaa
open Go.RowKit Go.Lib Cfd Cpd Ckp
set_option linter.unusedVariables false

def pvals (l : List Nat) : List Value := l.map fun x => Value.int .u64 (x : Nat)
theorem pvals_len (l : List Nat) : (pvals l).length = l.length := by unfold pvals; simp
theorem pts_of_sl {w : World} {A : Option Addr} {l : List Nat} (h : Sl w A (pvals l)) : Pts w A l := by
  intro h0
  obtain ⟨ad, e, hb, hc⟩ := h (by rw [pvals_len]; exact h0)
  refine ⟨ad, e, hb, fun j hj => hc j _ ?_⟩
  unfold pvals
  rw [List.getElem?_map, List.getD_eq_getElem?_getD, List.getElem?_eq_getElem hj]; rfl
theorem sl_of_pts {w : World} {A : Option Addr} {l : List Nat} (h : Pts w A l) : Sl w A (pvals l) := by
  intro h0
  rw [pvals_len] at h0
  obtain ⟨ad, e, hb, hc⟩ := h h0
  refine ⟨ad, e, hb, fun j u hu => ?_⟩
  unfold pvals at hu
  rw [List.getElem?_map] at hu
  by_cases hj : j < l.length
  · rw [List.getElem?_eq_getElem hj] at hu
    have := hc j hj
    rw [List.getD_eq_getElem?_getD, List.getElem?_eq_getElem hj] at this
    rw [this]; exact hu
  · rw [List.getElem?_eq_none (by omega)] at hu; cases hu

theorem Try.slPt : SlT Try.prog 41 40 (.int .u64 0) 8 := ⟨Try.underlying41, by kernel_rfl, rfl⟩

theorem take_b64 {l : List Nat} (h : ∀ i, l.getD i 0 < 18446744073709551616) (n : Nat) : ∀ i, (l.take n).getD i 0 < 18446744073709551616 := by
  intro i
  have := h i
  rw [List.getD_eq_getElem?_getD] at this ⊢
  rw [List.getElem?_take]
  split
  · exact this
  · decide
theorem drop_b64 {l : List Nat} (h : ∀ i, l.getD i 0 < 18446744073709551616) (n : Nat) : ∀ i, (l.drop n).getD i 0 < 18446744073709551616 := by
  intro i
  have := h (n + i)
  rw [List.getD_eq_getElem?_getD] at this ⊢
  rwa [List.getElem?_drop]
/-- The last j of a row, backwards. -/
@[irreducible] def bk (l : List Nat) (j : Nat) : List Nat := (l.drop (l.length - j)).reverse
theorem bk_0 (l : List Nat) : bk l 0 = [] := by unfold bk; simp
theorem bk_all (l : List Nat) : bk l l.length = l.reverse := by unfold bk; simp
theorem bk_len (l : List Nat) (j : Nat) (h : j ≤ l.length) : (bk l j).length = j := by unfold bk; simp; omega
theorem bk_snoc (l : List Nat) (j : Nat) (h : j < l.length) : bk l (j + 1) = bk l j ++ [l.getD (l.length - 1 - j) 0] := by
  unfold bk
  have e : l.length - (j + 1) = l.length - 1 - j := by omega
  have e2 : l.length - j = l.length - 1 - j + 1 := by omega
  rw [e, List.drop_eq_getElem_cons (by omega), List.reverse_cons, e2, List.getD_eq_getElem?_getD, List.getElem?_eq_getElem (by omega)]
  rfl

set_option maxHeartbeats 1000000 in
theorem walk_all6 (w : World) (a : Option Addr) (len cap : Nat) (zs : List Int) (hrow : IsRow .u64 w a len cap zs) (k : Nat) (hk : k < 256) :
    Calls Try.prog 10 #[.slice a len cap, .int .u8 (k : Int)] w fun e w' => e = .returned (.bool true) ∧ Kp w w' := by
  obtain ⟨h1, h2, h3, h4⟩ := row_pts hrow
  have hcap : len ≤ cap := by rcases hrow with ⟨_, rfl, rfl, _⟩ | ⟨_, _, h, _⟩ <;> omega
  obtain ⟨l, hl⟩ : ∃ l, l = natsOf zs len := ⟨_, rfl⟩
  rw [← hl] at h1 h3 h4
  have HL := Lib.hid h1
  have HB := Lib.hid h3
  have HP := Lib.hid h4
  clear hrow h1 h3 h4 hl
  by_cases h40 : 40 < len
  · go_enter Try.func10, Try.ntmps10
    go_wp2_with (go_at_call 32; refine (small6 _).mono ?_; rintro e w1 ⟨rfl, hK⟩)
    go_ret
    exact ⟨rfl, hK⟩
  · obtain ⟨n, hn⟩ : ∃ n, n = k % (len + 1) := ⟨_, rfl⟩
    have hnl : n ≤ len := by have := Nat.mod_lt k (show len + 1 > 0 by omega); omega
    have en : (k : Int) % ((len : Int) + 1) = (n : Int) := by rw [hn]; exact (Int.natCast_emod k (len + 1)).symm
    have hnz : ¬ ((len : Int) + 1 = 0) := by omega
    clear hn
    go_enter Try.func10, Try.ntmps10
    go_wp2_with (go_at_call 32; refine (small6 _).mono ?_; rintro e w1 ⟨rfl, hK⟩)
    have HK0 := Lib.hid hK
    simp only [en]
    have HE := Lib.hid en
    clear en hK
    go_loopw [7, 8] (fun bv iv wr => ∃ j : Nat, j ≤ len ∧ wr.ownsRow w.heap.size 40 1 bv j (pvals (bk l j)) ∧ Kp w wr ∧ iv = .int .i64 ((len : Int) - 1 - (j : Int))) (fun _ iv _ => (intOf iv + 1).toNat)
    case atStart => exact ⟨0, by omega, ⟨by rw [bk_0]; rfl, Or.inl ⟨rfl, rfl⟩⟩, HK0.out, by go_num⟩
    case round =>
      obtain ⟨j, hj, hown, hK, rfl⟩ := hrel
      by_cases hlt : j < len
      · obtain ⟨x, hx⟩ : ∃ x, x = len - 1 - j := ⟨_, rfl⟩
        have ex : (len : Int) - 1 - (j : Int) = (x : Int) := by omega
        have hxl : x < len := by omega
        have hxj : x + 1 + j ≤ len := by omega
        have hxj' : len ≤ x + 1 + j := by omega
        simp only [ex]
        have hsn := bk_snoc l j (by rw [HL.out]; exact hlt)
        rw [HL.out, ← hx] at hsn
        obtain ⟨ad, rfl, _, hc⟩ := HP.out.keep hK (by rw [HL.out]; omega)
        have hcx := hc x (by rw [HL.out]; exact hxl)
        obtain ⟨y, hy⟩ : ∃ y, y = l.getD x 0 := ⟨_, rfl⟩
        rw [← hy] at hcx hsn
        have HSn := Lib.hid hsn
        have HKr := Lib.hid hK
        have HO := Lib.hid hown
        clear hy hc hsn hK hown hx ex
        go_wp2_with (at_builtin; refine append_sl Try.slPt rfl _ _ rfl w (HKr.out.alloc _) _ _ _ rfl (HO.out.alloc _) _ _ _ [.int .u64 (y : Int)] rfl rfl (Sl.row (heap_alloc_new _ _)) (fun h => by cases h) (by simp [Value.oneCell']) (by unfold maxLen; omega) (by omega) ?_; intro v1 w1 hown1 hK1 hg1 hat1)
        go_roundw
        case rel => exact ⟨j + 1, by omega, by rw [HSn.out]; unfold pvals; rw [List.map_append]; exact hown1, hK1, congrArg (Value.int .i64) (by omega)⟩
        case measure => simp [intOf]
      · have hjl : j = len := by omega
        subst hjl
        have hbk : bk l j = l.reverse := by rw [← bk_all, HL.out]
        rw [hbk] at hown
        have hrl : l.reverse.length = j := by rw [List.length_reverse]; exact HL.out
        have hrb : ∀ i, l.reverse.getD i 0 < 18446744073709551616 := by
          intro i
          by_cases hi : i < l.length
          · rw [List.getD_eq_getElem?_getD, List.getElem?_reverse hi, ← List.getD_eq_getElem?_getD]; exact HB.out _
          · rw [List.getD_eq_getElem?_getD, List.getElem?_eq_none (by rw [List.length_reverse]; omega)]; decide
        have hform : ∃ A c, u7 = Value.slice A j c := by
          rcases hown.2 with ⟨h, h0⟩ | ⟨g, c, cur, h, _⟩
          · exact ⟨none, 0, by rw [h, h0]⟩
          · exact ⟨_, c, h⟩
        obtain ⟨A7, c7, rfl⟩ := hform
        have hp7 := pts_of_sl (Sl.of_own hown)
        have hKr := hK
        have HR := Lib.hid (And.intro hrl (And.intro hrb hp7))
        have HW := Lib.hid hKr
        have HAll := Lib.hid (pall_rev l)
        clear hown hbk hrl hrb hp7 hK hKr
        have hPr := HP.out.keep HW.out
        have HPr := Lib.hid hPr
        clear hPr HP
        have hr1 := right_all l
        have hlt1 := lt64' (pall_lt l)
        go_wp2_with (go_at_call 45; refine (pall_any a j cap l HL.out h2 HB.out _ HPr.out).mono ?_; rintro e w' ⟨rfl, q, rfl⟩)
        have h7 : ∀ d os, Calls Try.prog 45 #[.slice A7 j c7] (Go.Sort.grow (redrawn (wr.drewN q) d) os) fun e w' => e = .returned (.int .u64 (pall l : Nat)) ∧ ∃ n, w' = (Go.Sort.grow (redrawn (wr.drewN q) d) os).drewN n := by
          intro d os
          rw [← HAll.out]
          exact pall_any A7 j c7 l.reverse HR.out.1 h2 HR.out.2.1 _ (HR.out.2.2.keep (((Kp.refl wr).drewN q).trans (below_regrown _ d os)))
        have hra : ∀ d os, Calls Try.prog 33 #[.int .u64 (pall l : Nat)] (Go.Sort.grow (redrawn (wr.drewN q) d) os) fun e w' => e = .returned (.bool true) ∧ ∃ n, w' = (Go.Sort.grow (redrawn (wr.drewN q) d) os).drewN n := by
          intro d os
          have h := pright_any (pall l) (lt64' (pall_lt l)) (Go.Sort.grow (redrawn (wr.drewN q) d) os)
          rw [right_all] at h
          exact h
        have h51 : ∀ c d os, Calls Try.prog 45 #[.slice a n c] (Go.Sort.grow (redrawn (wr.drewN q) d) os) fun e w' => e = .returned (.int .u64 (pall (l.take n) : Nat)) ∧ ∃ n, w' = (Go.Sort.grow (redrawn (wr.drewN q) d) os).drewN n := by
          intro c d os
          refine pall_any a n c (l.take n) (by rw [List.length_take, HL.out]; omega) (by omega) (take_b64 HB.out n) _ ?_
          have h := (sl_of_pts HPr.out).take n
          have e : (pvals l).take n = pvals (l.take n) := by unfold pvals; rw [List.map_take]
          rw [e] at h
          exact (pts_of_sl h).keep (((Kp.refl wr).drewN q).trans (below_regrown _ d os))
        have h55 : ∀ d os, Calls Try.prog 45 #[.slice (if cap = n then a else Option.map (fun x => x.add n) a) (j - n) (cap - n)] (Go.Sort.grow (redrawn (wr.drewN q) d) os) fun e w' => e = .returned (.int .u64 (pall (l.drop n) : Nat)) ∧ ∃ n, w' = (Go.Sort.grow (redrawn (wr.drewN q) d) os).drewN n := by
          intro d os
          refine pall_any _ _ _ (l.drop n) (by rw [List.length_drop, HL.out]) (by omega) (drop_b64 HB.out n) _ ?_
          have h := (sl_of_pts HPr.out).cut n cap (by rw [pvals_len, HL.out]; exact hcap)
          have e : (pvals l).drop n = pvals (l.drop n) := by unfold pvals; rw [List.map_drop]
          rw [e] at h
          exact (pts_of_sl h).keep (((Kp.refl wr).drewN q).trans (below_regrown _ d os))
        have hadd : ∀ d os, Calls Try.prog 35 #[.int .u64 (pall (l.take n) : Nat), .int .u64 (pall (l.drop n) : Nat)] (Go.Sort.grow (redrawn (wr.drewN q) d) os) fun e w' => e = .returned (.int .u64 (pall l : Nat)) ∧ Kp (Go.Sort.grow (redrawn (wr.drewN q) d) os) w' := by
          intro d os
          have h := padd_any (pall (l.take n)) (pall (l.drop n)) (lt64' (pall_lt _)) (lt64' (pall_lt _)) (Go.Sort.grow (redrawn (wr.drewN q) d) os)
          rw [pall_parts] at h
          exact h
        have H51 := Lib.hid h51
        have H55 := Lib.hid h55
        have HAdd := Lib.hid hadd
        clear h55 hadd
        clear h51
        have H7 := Lib.hid h7
        have HRa := Lib.hid hra
        clear h7 hra
        try simp only [List.append_eq, List.cons_append, List.nil_append]
        refine wp_region_quiet_below (by kernel_rfl) (by kernel_rfl) ?_
        repeat (first
          | go_big_quiet_step ((first | (go_at_call 33; exact calls_drew (HRa.out _ _)) | (go_at_call 45; first | (with_reducible exact calls_drew (H7.out _ _)) | (with_reducible exact calls_drew (H51.out _ _ _)) | (with_reducible exact calls_drew (H55.out _ _))) | (go_at_call 35; with_reducible exact calls_kp (HAdd.out _ _)))))
        refine wpQuiet_nil ?_
        intro w2 hw2
        replace hw2 := kp_later hw2
        go_wp2
        all_goals
          go_ret
          exact ⟨rfl, (HW.out.drewN _).trans hw2⟩
end Go.Proofs.Ytndhbckdbobogaa
