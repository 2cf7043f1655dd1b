/- Shachain, plainly: the store and the other reading's side by side. No program in sight. -/
import Derived.Test.YtebffdgghkomjaaDoorSd1
import Derived.Test.YtebffdgghkomjaaDoorSq
namespace Go.Proofs.YtebffdgghkomjaaDoor
open Go Go.RowKit Go.Lib Ckp Cfd Cpd Sx
set_option linter.unusedVariables false
set_option linter.unusedSimpArgs false
/-- A kept one, as the other reading keeps it. -/
def gA (x : List Int) : List Int := (1048575 - plc x) :: tabI (hK x) 32
def toA (L : List (List (List Int))) : List (List Int) := L.flatMap fun e => e.map gA
/-- Each stands at its height. -/
structure HF (W : OW) (L : List (List (List Int))) : Prop where
 len : L.length = 21
 pos : ∀ i, ∀ x ∈ L.getD i [], W.hg (plc x) = (i : Int) ∧ 0 ≤ plc x ∧ plc x ≤ 1048575
theorem pl8_gA (x : List Int) : pl8 (gA x) = plc x := by
 show 1048575 - (1048575 - plc x) = plc x; omega
theorem hK_gA (x : List Int) : AV (hK (gA x)) = AV (hK x) := hK_cons _ _
theorem tab_gA (x : List Int) : tabI (hK (gA x)) 32 = tabI (hK x) 32 := hK_tab _ _
theorem mem_toA {L : List (List (List Int))} {y : List Int} : y ∈ toA L ↔ ∃ i x, x ∈ L.getD i [] ∧ y = gA x := by
 unfold toA
 rw [List.mem_flatMap]
 constructor
 ·rintro ⟨e, he, hy⟩
  obtain ⟨x, hx, rfl⟩ := List.mem_map.1 hy
  obtain ⟨i, hi, rfl⟩ := List.mem_iff_getElem.1 he
  exact ⟨i, x, by rw [List.getD_eq_getElem?_getD, List.getElem?_eq_getElem hi]; exact hx, rfl⟩
 ·rintro ⟨i, x, hx, rfl⟩
  by_cases hi : i < L.length
  ·rw [List.getD_eq_getElem?_getD, List.getElem?_eq_getElem hi] at hx
   exact ⟨L[i], List.getElem_mem hi, List.mem_map.2 ⟨x, hx, rfl⟩⟩
  ·rw [List.getD_eq_getElem?_getD, List.getElem?_eq_none (by omega)] at hx; cases hx
theorem okA_toA {O : OO} {W : OW} {L : List (List (List Int))} (H : HF W L) (h : okL O L = true) : okA O (toA L) = true := by
 obtain ⟨hL, hE⟩ := okL_at h
 unfold okA
 rw [List.all_eq_true]
 intro y hy
 obtain ⟨i, x, hx, rfl⟩ := mem_toA.1 hy
 have := H.pos i x hx
 have hx2 : O.isH (AV (hK x)) = true := by
  rcases okE_cases (hE i) with e | ⟨z, e, hz⟩
  ·rw [e] at hx; cases hx
  ·rw [e] at hx; rw [List.mem_singleton.1 hx]; exact hz
 rw [hK_gA, hx2, Bool.and_true]
 have e1 : (gA x).length = 33 := by unfold gA; rw [List.length_cons, tab32]
 have e2 : (gA x).getD 0 0 = 1048575 - plc x := rfl
 rw [e1, e2, show Nat.beq 33 33 = true from rfl, Bool.true_and]
 simp only [Bool.and_eq_true, Bool.or_eq_true, Sx.iLt_t, Sx.iLt_f, Sx.iLe_t, Sx.iLe_f, Sx.iEq_t, Sx.iEq_f, Sx.iBeq_t, Sx.iBeq_f, Sx.iBne_t, Sx.iBne_f, Nat.ble_eq, Nat.beq_eq, Sx.Cont.n]; omega
/-- Those below come of it, in both readings. -/
theorem ck_eq {W : OW} {L : List (List (List Int))} (H : HF W L) (h : Nat) (hh : h ≤ 20) (a : Array Value) : rCk W (h : Int) a (toA L) = chkAll W L (h : Int) a h := by
 rw [Bool.eq_iff_iff]
 unfold rCk chkAll
 rw [List.all_eq_true, List.all_eq_true]
 constructor
 ·intro k i hi
  have hi := List.mem_range.1 hi
  unfold chkE
  rw [List.all_eq_true]
  intro x hx
  have := k (gA x) (mem_toA.2 ⟨i, x, hx, rfl⟩)
  rw [pl8_gA, hK_gA, (H.pos i x hx).1, show iLt (i : Int) (h : Int) = true by simp only [Bool.and_eq_true, Bool.or_eq_true, Sx.iLt_t, Sx.iLt_f, Sx.iLe_t, Sx.iLe_f, Sx.iEq_t, Sx.iEq_f, Sx.iBeq_t, Sx.iBeq_f, Sx.iBne_t, Sx.iBne_f, Nat.ble_eq, Nat.beq_eq, Sx.Cont.n]; omega, cond_true] at this
  exact this
 ·intro k y hy
  obtain ⟨i, x, hx, rfl⟩ := mem_toA.1 hy
  rw [pl8_gA, hK_gA, (H.pos i x hx).1]
  cases c : iLt (i : Int) (h : Int)
  ·rw [cond_false]
  ·simp only [Bool.and_eq_true, Bool.or_eq_true, Sx.iLt_t, Sx.iLt_f, Sx.iLe_t, Sx.iLe_f, Sx.iEq_t, Sx.iEq_f, Sx.iBeq_t, Sx.iBeq_f, Sx.iBne_t, Sx.iBne_f, Nat.ble_eq, Nat.beq_eq, Sx.Cont.n] at c
   have := k i (List.mem_range.2 (by omega))
   unfold chkE at this
   rw [cond_true]
   exact List.all_eq_true.1 this x hx
theorem filter_none {α : Type} {p : α → Bool} {l : List α} (h : ∀ x ∈ l, p x = false) : l.filter p = [] := by
 rw [List.filter_eq_nil_iff]
 intro x hx
 rw [h x hx]; decide
theorem filter_all {α : Type} {p : α → Bool} {l : List α} (h : ∀ x ∈ l, p x = true) : l.filter p = l := List.filter_eq_self.2 h
theorem toA_cons (e : List (List Int)) (L : List (List (List Int))) : toA (e :: L) = e.map gA ++ toA L := by unfold toA; rw [List.flatMap_cons]
/-- A new one in its place. -/
theorem put_eq {W : OW} (y : List Int) : ∀ (L : List (List (List Int))) (i h : Nat), (∀ j, ∀ x ∈ L.getD j [], W.hg (plc x) = ((i + j : Nat) : Int)) → h < L.length →
  rLo W ((i + h : Nat) : Int) (toA L) ++ [gA y] ++ rHi W ((i + h : Nat) : Int) (toA L) = toA (L.set h [y])
 | [], _, _, _, hh => by cases hh
 | e :: es, i, h, H, hh => by
  have He : ∀ x ∈ e, W.hg (plc x) = (i : Int) := fun x hx => H 0 x hx
  have Hs : ∀ j, ∀ x ∈ es.getD j [], W.hg (plc x) = ((i + 1 + j : Nat) : Int) := fun j x hx => by
   have := H (j + 1) x (by rw [List.getD_cons_succ]; exact hx)
   rw [this]; congr 1; omega
  have Hm : ∀ z ∈ toA es, ∃ j : Nat, W.hg (pl8 z) = ((i + 1 + j : Nat) : Int) := fun z hz => by
   obtain ⟨j, x, hx, rfl⟩ := mem_toA.1 hz
   exact ⟨j, by rw [pl8_gA]; exact Hs j x hx⟩
  have He2 : ∀ z ∈ e.map gA, W.hg (pl8 z) = (i : Int) := fun z hz => by
   obtain ⟨x, hx, rfl⟩ := List.mem_map.1 hz
   rw [pl8_gA]; exact He x hx
  unfold rLo rHi
  rw [toA_cons, List.filter_append, List.filter_append]
  match h, hh with
  | 0, _ =>
   rw [filter_none (l := e.map gA) (fun z hz => by rw [He2 z hz]; simp only [Bool.and_eq_true, Bool.or_eq_true, Sx.iLt_t, Sx.iLt_f, Sx.iLe_t, Sx.iLe_f, Sx.iEq_t, Sx.iEq_f, Sx.iBeq_t, Sx.iBeq_f, Sx.iBne_t, Sx.iBne_f, Nat.ble_eq, Nat.beq_eq, Sx.Cont.n]; omega), filter_none (l := toA es) (fun z hz => by obtain ⟨j, hj⟩ := Hm z hz; rw [hj]; simp only [Bool.and_eq_true, Bool.or_eq_true, Sx.iLt_t, Sx.iLt_f, Sx.iLe_t, Sx.iLe_f, Sx.iEq_t, Sx.iEq_f, Sx.iBeq_t, Sx.iBeq_f, Sx.iBne_t, Sx.iBne_f, Nat.ble_eq, Nat.beq_eq, Sx.Cont.n]; omega),
    filter_none (l := e.map gA) (fun z hz => by rw [He2 z hz]; simp only [Bool.and_eq_true, Bool.or_eq_true, Sx.iLt_t, Sx.iLt_f, Sx.iLe_t, Sx.iLe_f, Sx.iEq_t, Sx.iEq_f, Sx.iBeq_t, Sx.iBeq_f, Sx.iBne_t, Sx.iBne_f, Nat.ble_eq, Nat.beq_eq, Sx.Cont.n]; omega), filter_all (l := toA es) (fun z hz => by obtain ⟨j, hj⟩ := Hm z hz; rw [hj]; simp only [Bool.and_eq_true, Bool.or_eq_true, Sx.iLt_t, Sx.iLt_f, Sx.iLe_t, Sx.iLe_f, Sx.iEq_t, Sx.iEq_f, Sx.iBeq_t, Sx.iBeq_f, Sx.iBne_t, Sx.iBne_f, Nat.ble_eq, Nat.beq_eq, Sx.Cont.n]; omega)]
   rw [List.set_cons_zero, toA_cons]; rfl
  | h + 1, hh =>
   have ih := put_eq y es (i + 1) h Hs (by simpa using hh)
   unfold rLo rHi at ih
   rw [show i + 1 + h = i + (h + 1) by omega] at ih
   rw [filter_all (l := e.map gA) (fun z hz => by rw [He2 z hz]; simp only [Bool.and_eq_true, Bool.or_eq_true, Sx.iLt_t, Sx.iLt_f, Sx.iLe_t, Sx.iLe_f, Sx.iEq_t, Sx.iEq_f, Sx.iBeq_t, Sx.iBeq_f, Sx.iBne_t, Sx.iBne_f, Nat.ble_eq, Nat.beq_eq, Sx.Cont.n]; omega), filter_none (l := e.map gA) (fun z hz => by rw [He2 z hz]; simp only [Bool.and_eq_true, Bool.or_eq_true, Sx.iLt_t, Sx.iLt_f, Sx.iLe_t, Sx.iLe_f, Sx.iEq_t, Sx.iEq_f, Sx.iBeq_t, Sx.iBeq_f, Sx.iBne_t, Sx.iBne_f, Nat.ble_eq, Nat.beq_eq, Sx.Cont.n]; omega), List.set_cons_succ, toA_cons, ← ih]
   simp only [List.append_assoc, List.nil_append]
theorem hg_nat {O : OO} {W : OW} (hw : W = wO O) (p : Int) : ∃ h : Nat, W.hg p = h ∧ h ≤ 20 := by
 have := hg_le hw p
 exact ⟨(W.hg p).toNat, by omega, by omega⟩
/-- What is told of a new one. -/
theorem add_eq {O : OO} {W : OW} (hw : W = wO O) {L : List (List (List Int))} (H : HF W L) (n no : Int) (a : Array Value) : rE W n (toA L) no a = stE W n L no a ∧ rN W n (toA L) no a = stN W n L no a ∧ rA W n (toA L) no a = toA (stL W n L no a) := by
 obtain ⟨h, e, h20⟩ := hg_nat hw (1048575 - no)
 have k : rE W n (toA L) no a = stE W n L no a := by
  unfold rE stE
  rw [e, Int.toNat_natCast, ck_eq H h h20]
 refine ⟨k, by unfold rN stN; rw [k], ?_⟩
 unfold rA stL
 rw [k]
 cases iBeq (stE W n L no a) 0
 ·rfl
 ·rw [cond_true, cond_true, e, Int.toNat_natCast]
  have := put_eq (W := W) ((1048575 - no) :: tabI (fnA a) 32) L 0 h (fun j x hx => by rw [Nat.zero_add]; exact (H.pos j x hx).1) (by rw [H.len]; omega)
  rw [Nat.zero_add] at this
  rw [← this]
  have g : gA ((1048575 - no) :: tabI (fnA a) 32) = no :: tabI (fnA a) 32 := by
   unfold gA
   rw [plc_cons, hK_tab, show 1048575 - (1048575 - no) = no by omega]
  rw [g]
/-- Kept ones stay at their heights. -/
theorem hf_add {O : OO} {W : OW} (hw : W = wO O) {L : List (List (List Int))} (H : HF W L) {n no : Int} (hn : 0 ≤ n) (a : Array Value) : HF W (stL W n L no a) := by
 unfold stL
 cases c : iBeq (stE W n L no a) 0
 ·exact H
 ·rw [cond_true]
  obtain ⟨h, e, h20⟩ := hg_nat hw (1048575 - no)
  rw [e, Int.toNat_natCast]
  have hno : 0 ≤ no ∧ no < 1048576 := by
   unfold stE at c
   cases c1 : iBne no n
   ·cases c2 : iLe 1048576 no
    ·simp only [Bool.and_eq_true, Bool.or_eq_true, Sx.iLt_t, Sx.iLt_f, Sx.iLe_t, Sx.iLe_f, Sx.iEq_t, Sx.iEq_f, Sx.iBeq_t, Sx.iBeq_f, Sx.iBne_t, Sx.iBne_f, Nat.ble_eq, Nat.beq_eq, Sx.Cont.n] at c1 c2; omega
    ·rw [c1, c2] at c; cases c
   ·rw [c1] at c; cases c
  refine ⟨by rw [List.length_set]; exact H.len, fun i x hx => ?_⟩
  by_cases q : h = i
  ·subst q
   rw [getD_set_eq (by rw [H.len]; omega)] at hx
   rw [List.mem_singleton.1 hx, plc_cons]
   exact ⟨e, by omega, by omega⟩
  ·rw [getD_set_ne q] at hx
   exact H.pos i x hx
theorem hf_nil (W : OW) : HF W nilL := by
 refine ⟨rfl, fun i x hx => ?_⟩
 unfold nilL at hx
 rw [List.getD_eq_getElem?_getD, List.getElem?_replicate] at hx
 split at hx <;> cases hx
theorem toA_nil : toA nilL = [] := by
 unfold toA nilL
 rw [List.flatMap_eq_nil_iff]
 intro e he
 rw [List.eq_of_mem_replicate he]; rfl
theorem size_eq {L : List (List (List Int))} (h : L.length = 21) : (toA L).length = stC L 21 := by
 unfold toA stC
 rw [List.length_flatMap, List.take_of_length_le (by omega)]
 congr 1
 exact List.map_congr_left fun e _ => List.length_map ..
theorem bytes_eq {L : List (List (List Int))} (h : L.length = 21) : rBy (toA L) (toA L).length = bytF L 21 := by
 unfold rBy bytF
 rw [List.take_length, List.take_of_length_le (show L.length ≤ 21 by omega)]
 unfold toA
 rw [List.flatMap_assoc]
 have : ∀ e : List (List Int), ((e.map gA).flatMap fun x => tabI (hK x) 32) = e.flatMap fun x => tabI (hK x) 32 := fun e => by
  rw [List.flatMap_map]
  simp only [tab_gA]
 simp only [this]
theorem toA_app (a b : List (List (List Int))) : toA (a ++ b) = toA a ++ toA b := by unfold toA; rw [List.flatMap_append]
theorem toA_split {L : List (List (List Int))} {i : Nat} (h : i < L.length) : toA L = toA (L.take i) ++ ((L.getD i []).map gA ++ toA (L.drop (i + 1))) := by
 conv => lhs; rw [← List.take_append_drop i L]
 rw [toA_app, List.drop_eq_getElem_cons h, toA_cons, List.getD_eq_getElem?_getD, List.getElem?_eq_getElem h]; rfl
theorem toA_take {L : List (List (List Int))} {i : Nat} (h : i < L.length) : toA (L.take (i + 1)) = toA (L.take i) ++ (L.getD i []).map gA := by
 rw [List.take_add_one, toA_app, List.getElem?_eq_getElem h, List.getD_eq_getElem?_getD, List.getElem?_eq_getElem h]
 show _ ++ toA [L[i]] = _ ++ L[i].map gA
 rw [toA_cons]
 show _ ++ (L[i].map gA ++ []) = _
 rw [List.append_nil]
/-- The first that covers a place, in both readings. -/
theorem fnd_eq {O : OO} {W : OW} {L : List (List (List Int))} (H : HF W L) (hE : ∀ i, okE O (L.getD i []) = true) (p : Int) : ∀ m i, i + m = 21 →
  rFi W (toA L) p ((toA L).length - (toA (L.take i)).length) (toA (L.take i)).length = (toA (L.take (fndK L p m i))).length ∧ fndK L p m i ≤ 21 ∧ (fndK L p m i < 21 → covB L p (fndK L p m i) = true)
 | 0, i, h => by
  have hi : i = 21 := by omega
  subst hi
  have e : L.take 21 = L := List.take_of_length_le (by rw [H.len]; omega)
  show rFi W (toA L) p ((toA L).length - (toA (L.take 21)).length) (toA (L.take 21)).length = (toA (L.take 21)).length ∧ 21 ≤ 21 ∧ (21 < 21 → covB L p 21 = true)
  rw [e, Nat.sub_self]
  exact ⟨rfl, Nat.le_refl _, fun h => absurd h (Nat.lt_irrefl _)⟩
 | m + 1, i, h => by
  have hi : i < L.length := by rw [H.len]; omega
  have ih := fnd_eq H hE p m (i + 1) (by omega)
  have st : fndK L p (m + 1) i = bif covB L p i then i else fndK L p m (i + 1) := rfl
  have tk := toA_take hi
  have sp := toA_split hi
  rcases okE_cases (hE i) with e | ⟨y, e, hy⟩
  ·have c : covB L p i = false := by unfold covB; rw [e]; rfl
   rw [e] at tk
   have tk : toA (L.take (i + 1)) = toA (L.take i) := by rw [tk]; exact List.append_nil _
   rw [c] at st
   have st : fndK L p (m + 1) i = fndK L p m (i + 1) := st
   rw [st, ← tk]; exact ih
  ·rw [e] at tk sp
   have hy2 := H.pos i y (by rw [e]; exact List.mem_singleton.2 rfl)
   have lj : (toA (L.take (i + 1))).length = (toA (L.take i)).length + 1 := by rw [tk, List.length_append]; rfl
   have ll : (toA L).length = (toA (L.take i)).length + (1 + (toA (L.drop (i + 1))).length) := by rw [sp, List.length_append, List.length_append]; rfl
   have gj : (toA L).getD (toA (L.take i)).length [] = gA y := by
    rw [sp, List.getD_eq_getElem?_getD, List.getElem?_append_right (Nat.le_refl _), Nat.sub_self]; rfl
   have cv : cov8 W (pl8 (gA y)) p = covB L p i := by
    unfold cov8 covB
    rw [pl8_gA, hy2.1, e, Int.toNat_natCast, List.any_cons, List.any_nil, Bool.or_false]
   have fu : rFi W (toA L) p ((toA L).length - (toA (L.take i)).length) (toA (L.take i)).length = bif covB L p i then (toA (L.take i)).length else rFi W (toA L) p ((toA L).length - ((toA (L.take i)).length + 1)) ((toA (L.take i)).length + 1) := by
    rw [show (toA L).length - (toA (L.take i)).length = ((toA L).length - ((toA (L.take i)).length + 1)) + 1 by omega, rFi, gj, cv]
   rw [fu, st]
   cases c : covB L p i
   ·rw [← lj]; exact ih
   ·exact ⟨rfl, by show i ≤ 21; omega, fun _ => c⟩
theorem get_eq {O : OO} {W : OW} {L : List (List (List Int))} (H : HF W L) (h : okL O L = true) (n no : Int) : rGB W n no (toA L) = getB n no L ∧ rGF W n no (toA L) = getF W n no L := by
 obtain ⟨hL, hE⟩ := okL_at h
 obtain ⟨f1, f2, f3⟩ := fnd_eq H hE (1048575 - no) 21 0 rfl
 have t0 : toA (L.take 0) = [] := rfl
 rw [t0] at f1
 have f1 : rFi W (toA L) (1048575 - no) (toA L).length 0 = (toA (L.take (fndK L (1048575 - no) 21 0))).length := f1
 obtain ⟨k, hk⟩ : ∃ k, fndK L (1048575 - no) 21 0 = k := ⟨_, rfl⟩
 rw [hk] at f1 f2 f3
 have cs : (k < 21 ∧ ∃ y, L.getD k [] = [y] ∧ W.hg (plc y) = (k : Int) ∧ (toA (L.take k)).length < (toA L).length ∧ (toA L).getD (toA (L.take k)).length [] = gA y) ∨ (k = 21 ∧ (toA (L.take k)).length = (toA L).length) := by
  by_cases q : k < 21
  ·refine .inl ⟨q, ?_⟩
   have c := f3 q
   rcases okE_cases (hE k) with e | ⟨y, e, hy⟩
   ·unfold covB at c; rw [e] at c; cases c
   ·have sp := toA_split (show k < L.length by omega)
    rw [e] at sp
    refine ⟨y, e, (H.pos k y (by rw [e]; exact List.mem_singleton.2 rfl)).1, ?_, ?_⟩
    ·rw [sp, List.length_append, List.length_append]
     show _ < _ + (1 + _)
     omega
    ·rw [sp, List.getD_eq_getElem?_getD, List.getElem?_append_right (Nat.le_refl _), Nat.sub_self]; rfl
  ·exact .inr ⟨by omega, by rw [List.take_of_length_le (by omega)]⟩
 have b : rGB W n no (toA L) = getB n no L := by
  unfold rGB getB
  rw [f1, hk]
  rcases cs with ⟨q, y, _, _, q2, _⟩ | ⟨q, q2⟩
  ·rw [show Nat.blt (toA (L.take k)).length (toA L).length = true by rw [Nat.blt_eq]; exact q2, show Nat.blt k 21 = true by rw [Nat.blt_eq]; exact q]
  ·rw [q2, show Nat.blt (toA L).length (toA L).length = false by rw [Bool.eq_false_iff, Ne, Nat.blt_eq]; omega, q]; rfl
 refine ⟨b, ?_⟩
 funext i
 unfold rGF getF
 rw [b, f1, hk]
 cases c : getB n no L
 ·rfl
 ·rw [cond_true, cond_true]
  rcases cs with ⟨q, y, e, q1, q2, q3⟩ | ⟨q, q2⟩
  ·rw [q3, pl8_gA, q1, hK_gA, e]; rfl
  ·exfalso
   unfold getB at c
   rw [hk, q] at c
   cases c2 : (bif iLt no 0 then true else iLe n no)
   ·rw [c2] at c; cases c
   ·rw [c2] at c; cases c
end Go.Proofs.YtebffdgghkomjaaDoor
