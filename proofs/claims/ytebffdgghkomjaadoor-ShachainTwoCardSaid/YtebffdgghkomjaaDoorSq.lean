/- Shachain, plainly: what is read of a store's bytes; few are kept. No program in sight. -/
import Derived.Test.YtebffdgghkomjaaDoorSp
namespace Go.Proofs.YtebffdgghkomjaaDoor
open Go Go.RowKit Go.Lib Ckp Cfd Cpd Sx
set_option linter.unusedVariables false
set_option linter.unusedSimpArgs false
theorem hK_tab (p : Int) (a : Nat → Int) : tabI (hK (p :: tabI a 32)) 32 = tabI a 32 := by kernel_rfl
theorem tab_ext {f g : Nat → Int} : ∀ n : Nat, (∀ i, i < n → f i = g i) → tabI f n = tabI g n
 | 0, _ => rfl
 | n + 1, h => by rw [tabI, tabI, tab_ext n (fun i hi => h i (by omega)), h n (by omega)]
theorem tab_hash {l : List Int} (h : l.length = 32) : tabI (hashF l) 32 = l := by
 rw [tab_ext (g := fun i => l.getD i 0) 32 (fun i hi => ?_), tab_self h]
 unfold hashF
 rw [show Nat.blt i l.length = true by rw [Nat.blt_eq]; omega]; rfl
theorem bytF_at {W : OW} {n : Int} {L : List (List (List Int))} {K : Int → Nat → Int} (I : InvS W n L K) {h : Nat} (hh : h < 21) : bytF L (h + 1) = bytF L h ++ bif rdS n h then tabI (K (lstP n h)) 32 else [] := by
 rw [bytF_succ I.len hh, I.ent h hh]
 cases rdS n h
 ·rfl
 ·simp only [cond_true, List.flatMap_cons, List.flatMap_nil, List.append_nil, hK_tab]
theorem bytF_le {W : OW} {n : Int} {L : List (List (List Int))} {K : Int → Nat → Int} (I : InvS W n L K) {h : Nat} : ∀ d, h + d = 21 → ∃ r, bytF L 21 = bytF L h ++ r
 | 0, e => ⟨[], by rw [show h = 21 by omega]; simp⟩
 | d + 1, e => by
  obtain ⟨r, hr⟩ := bytF_le I (h := h + 1) d (by omega)
  rw [bytF_at I (h := h) (by omega)] at hr
  exact ⟨_, by rw [hr, List.append_assoc]⟩
/-- What is read of a store's bytes: the reader's state. -/
theorem read_state {W : OW} {n : Int} {L : List (List (List Int))} {K : Int → Nat → Int} (I : InvS W n L K) : ∀ h, h ≤ 21 → rdRl n (bytF L 21) false h = (bytF L 21).drop (bytF L h).length ∧ rdRn n (bytF L 21) false h = false
 | 0, _ => ⟨rfl, rfl⟩
 | h + 1, hh => by
  obtain ⟨i1, i2⟩ := read_state I h (by omega)
  have e : rdR n (bytF L 21) false (h + 1) = bif rdS n h then (hshR (rdRl n (bytF L 21) false h) (rdRn n (bytF L 21) false h), hshN (rdRl n (bytF L 21) false h) (rdRn n (bytF L 21) false h)) else rdR n (bytF L 21) false h := rfl
  show (rdR n (bytF L 21) false (h + 1)).1 = _ ∧ (rdR n (bytF L 21) false (h + 1)).2 = false
  rw [e]
  have b := bytF_at I (h := h) (by omega)
  cases r : rdS n h
  ·rw [r, cond_false, List.append_nil] at b
   rw [b, cond_false]; exact ⟨i1, i2⟩
  ·rw [r, cond_true] at b
   obtain ⟨q, hq⟩ := bytF_le I (h := h + 1) (21 - (h + 1)) (by omega)
   rw [b] at hq
   have hd : (bytF L 21).drop (bytF L h).length = tabI (K (lstP n h)) 32 ++ q := by rw [hq, List.append_assoc, List.drop_left]
   rw [cond_true, i1, i2, hd]
   have hB : hshB (tabI (K (lstP n h)) 32 ++ q) false = false := by
    unfold hshB
    rw [cond_false, iLt_f, List.length_append, tab32]; omega
   unfold hshR hshN
   rw [hB, cond_false, cond_false]
   refine ⟨?_, rfl⟩
   rw [b, List.length_append, tab32, ← List.drop_drop, hd]
/-- The secret that is read next. -/
theorem read_hsh {W : OW} {n : Int} {L : List (List (List Int))} {K : Int → Nat → Int} (I : InvS W n L K) {h : Nat} (hh : h < 21) (r : rdS n h = true) : tabI (hsh (rdRl n (bytF L 21) false h) (rdRn n (bytF L 21) false h)) 32 = tabI (K (lstP n h)) 32 := by
 obtain ⟨i1, i2⟩ := read_state I h (by omega)
 have b := bytF_at I (h := h) (by omega)
 rw [r, cond_true] at b
 obtain ⟨q, hq⟩ := bytF_le I (h := h + 1) (21 - (h + 1)) (by omega)
 rw [b] at hq
 have hd : (bytF L 21).drop (bytF L h).length = tabI (K (lstP n h)) 32 ++ q := by rw [hq, List.append_assoc, List.drop_left]
 rw [i1, i2, hd]
 have hB : hshB (tabI (K (lstP n h)) 32 ++ q) false = false := by
  unfold hshB
  rw [cond_false, iLt_f, List.length_append, tab32]; omega
 unfold hsh
 rw [hB, cond_false, List.take_append_of_le_length (by rw [tab32]; omega), List.take_of_length_le (by rw [tab32]; omega)]
 exact tab_hash (tab32 _)
theorem read_L {W : OW} {n : Int} {L : List (List (List Int))} {K : Int → Nat → Int} (I : InvS W n L K) : ∀ h, h ≤ 21 → (rdL n (bytF L 21) false h).length = 21 ∧ ∀ i, i < 21 → (rdL n (bytF L 21) false h).getD i [] = bif Nat.blt i h then L.getD i [] else []
 | 0, _ => by
  refine ⟨rfl, fun i hi => ?_⟩
  show (List.replicate 21 []).getD i [] = _
  rw [List.getD_eq_getElem?_getD, List.getElem?_replicate, if_pos hi]
  rfl
 | h + 1, hh => by
  obtain ⟨i1, i2⟩ := read_L I h (by omega)
  show (bif rdS n h then (rdL n (bytF L 21) false h).set h [lstP n h :: tabI (hsh (rdRl n (bytF L 21) false h) (rdRn n (bytF L 21) false h)) 32] else rdL n (bytF L 21) false h).length = 21 ∧ ∀ i, i < 21 → (bif rdS n h then (rdL n (bytF L 21) false h).set h [lstP n h :: tabI (hsh (rdRl n (bytF L 21) false h) (rdRn n (bytF L 21) false h)) 32] else rdL n (bytF L 21) false h).getD i [] = _
  have e := I.ent h (by omega)
  have ne : ∀ i, i ≠ h → Nat.blt i (h + 1) = Nat.blt i h := fun i hi => by
   rw [Bool.eq_iff_iff, Nat.blt_eq, Nat.blt_eq]; omega
  have eq1 : Nat.blt h (h + 1) = true := by rw [Nat.blt_eq]; omega
  have eq2 : Nat.blt h h = false := by rw [Bool.eq_false_iff, Ne, Nat.blt_eq]; omega
  cases r : rdS n h
  ·rw [r, cond_false] at e
   refine ⟨i1, fun i hi => ?_⟩
   rw [cond_false, i2 i hi]
   by_cases q : i = h
   ·subst q; rw [eq1, eq2, cond_true, e]; rfl
   ·rw [ne i q]
  ·rw [r, cond_true] at e
   rw [cond_true, read_hsh I (by omega) r]
   refine ⟨by rw [List.length_set]; exact i1, fun i hi => ?_⟩
   by_cases q : i = h
   ·subst q
    rw [getD_set_eq (by omega), eq1, cond_true, e]
   ·rw [getD_set_ne (fun h => q h.symm), i2 i hi, ne i q]
theorem read_B {W : OW} {n : Int} {L : List (List (List Int))} {K : Int → Nat → Int} (I : InvS W n L K) : ∀ h, h ≤ 21 → rdB W n (bytF L 21) false h = true
 | 0, _ => rfl
 | h + 1, hh => by
  have ih := read_B I h (by omega)
  show (bif rdB W n (bytF L 21) false h then (bif rdS n h then cmsAll W (rdL n (bytF L 21) false h) h (lstP n h) (AV (hsh (rdRl n (bytF L 21) false h) (rdRn n (bytF L 21) false h))) h else true) else false) = true
  rw [ih, cond_true]
  cases r : rdS n h
  ·rfl
  ·rw [cond_true, AV_list.2 (read_hsh I (by omega) r)]
   unfold cmsAll
   refine List.all_eq_true.2 fun i hi => ?_
   have hi' := List.mem_range.1 hi
   rw [(read_L I h (by omega)).2 i (by omega), show Nat.blt i h = true by rw [Nat.blt_eq]; exact hi', cond_true, I.ent i (by omega)]
   cases r2 : rdS n i
   ·rfl
   ·simp only [cond_true, cmsE, List.all_cons, List.all_nil, Bool.and_true, plc_cons, hK_cons, Int.toNat_natCast, fd]
    cases t : iBeq (lstP n i / 2 ^ h) (lstP n h / 2 ^ h)
    ·rfl
    ·simp only [iBeq_t] at t
     have s := rd_spec I.lo (by omega) r2
     rw [cond_true, eqv_AV]
     exact I.con h (by omega) r _ s.2.1 s.2.2.1 t
theorem read_LL {W : OW} {n : Int} {L : List (List (List Int))} {K : Int → Nat → Int} (I : InvS W n L K) : rdL n (bytF L 21) false 21 = L := by
 obtain ⟨i1, i2⟩ := read_L I 21 (by omega)
 refine List.ext_getElem (by rw [i1, I.len]) fun i h1 h2 => ?_
 have := i2 i (by omega)
 rw [show Nat.blt i 21 = true by rw [Nat.blt_eq]; omega, cond_true, List.getD_eq_getElem?_getD, List.getD_eq_getElem?_getD, List.getElem?_eq_getElem h1, List.getElem?_eq_getElem h2] at this
 simpa using this
/-- A store is read as it was laid. -/
theorem read_back {W : OW} {n : Int} {L : List (List (List Int))} {K : Int → Nat → Int} (I : InvS W n L K) {R : OB} (hr : R = bO) : R.nV (R.row n ++ bytF L 21) = n ∧ rdOk R W (R.row n ++ bytF L 21) = true ∧ rdLL R (R.row n ++ bytF L 21) = L := by
 subst hr
 have k := num_row (bytF L 21) I.lo.1 (by have := I.lo.2; omega)
 have e1 : bO.nOk (bO.row n ++ bytF L 21) = true := congrArg (fun x => x.1) k
 have e2 : bO.nV (bO.row n ++ bytF L 21) = n := congrArg (fun x => x.2.1) k
 have e3 : bO.nR (bO.row n ++ bytF L 21) = bytF L 21 := by
  show (bif (numG (rowI n ++ bytF L 21) 10 0 0).1 then (rowI n ++ bytF L 21).drop (numG (rowI n ++ bytF L 21) 10 0 0).2.2 else []) = _
  rw [k]
  show (rowI n ++ bytF L 21).drop (rowI n).length = _
  rw [List.drop_left]
 have e4 : rNo bO (bO.row n ++ bytF L 21) = false := by unfold rNo; rw [e1]; rfl
 refine ⟨e2, ?_, by unfold rdLL; rw [e2, e3, e4]; exact read_LL I⟩
 unfold rdOk rBad
 rw [e2, e3, e4, show iLt 1048576 n = false by simp only [iLt_f]; have := I.lo.2; omega, read_B I 21 (by omega), (read_state I 21 (by omega)).2, (read_state I 21 (by omega)).1]
 simp
/-- Few are kept. -/
theorem stC_few {W : OW} {n : Int} {L : List (List (List Int))} {K : Int → Nat → Int} (I : InvS W n L K) (hn : n ≤ 200) : stC L 21 ≤ 8 := by
 have no : ∀ i, 8 ≤ i → i < 21 → rdS n i = false := fun i h1 h2 => by
  cases r : rdS n i
  ·rfl
  ·exfalso
   obtain ⟨H, b1, b2, b3⟩ := rd_spec I.lo h2 r
   rcases H with ⟨h3, e⟩ | ⟨h3, e⟩
   ·rcases lev h3 with rfl | rfl | rfl | rfl | rfl | rfl | rfl | rfl | rfl | rfl | rfl | rfl | rfl | rfl | rfl | rfl | rfl | rfl | rfl | rfl <;> simp only [Int.reducePow, Nat.reduceAdd] at e <;> omega
   ·omega
 have key : ∀ k, k ≤ 21 → stC L k ≤ min k 8 := by
  intro k
  induction k with
  | zero => intro _; exact Nat.zero_le _
  | succ k ih =>
   intro hk
   have ih := ih (by omega)
   have e : stC L (k + 1) = stC L k + (L.getD k []).length := by
    unfold stC
    rw [List.take_add_one, List.getElem?_eq_getElem (by rw [I.len]; omega), List.map_append, List.sum_append, List.getD_eq_getElem?_getD, List.getElem?_eq_getElem (by rw [I.len]; omega)]
    simp
   rw [e, I.ent k (by omega)]
   by_cases q : k < 8
   ·have : (bif rdS n k then [lstP n k :: tabI (K (lstP n k)) 32] else []).length ≤ 1 := by cases rdS n k <;> simp
    omega
   ·rw [no k (by omega) (by omega)]
    simp only [cond_false, List.length_nil]
    omega
 exact Nat.le_trans (key 21 (by omega)) (by omega)
end Go.Proofs.YtebffdgghkomjaaDoor
