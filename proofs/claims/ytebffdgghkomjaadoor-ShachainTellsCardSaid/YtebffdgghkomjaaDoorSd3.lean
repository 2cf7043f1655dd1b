/- Shachain's other reading: Read, by the symbolic machine (printed by genSd3.py; VCs by VcTool). -/
import Derived.Test.YtebffdgghkomjaaDoorSd2
import Derived.Test.YtebffdgghkomjaaDoorSc2
namespace Go.Proofs.YtebffdgghkomjaaDoor
open Go.RowKit Go.Lib Ckp Cfd Cpd Sx
set_option linter.unusedVariables false
set_option linter.unusedSimpArgs false
set_option maxRecDepth 1000000
/-- What is kept behind some heights. -/
def rAl (n : Int) (l : List Int) (no : Bool) : Nat → List (List Int)
 | 0 => []
 | h + 1 => bif rdS n h then rAl n l no h ++ [(1048575 - lstP n h) :: tabI (hsh (rdRl n l no h) (rdRn n l no h)) 32] else rAl n l no h
/-- Does one that must come from another one? -/
def prT (W : OW) (z x : List Int) : Bool := bif cov8 W (pl8 z) (pl8 x) then eqv (AV (W.cm (W.hg (pl8 z)) (pl8 x) (AV (hK z)))) (AV (hK x)) else true
def prR (W : OW) (A : List (List Int)) (i k : Nat) : Bool := (List.range k).all fun j => prT W (A.getD i []) (A.getD j [])
def prA (W : OW) (A : List (List Int)) (i : Nat) : Bool := (List.range i).all fun j => prR W A j j

theorem beq_comm (a b : Int) : iBeq a b = iBeq b a := by
 rw [Bool.eq_iff_iff]; simp only [iBeq_t]; exact eq_comm
theorem rdL_shape (n : Int) (l : List Int) (no : Bool) : ∀ h, h ≤ 21 → (rdL n l no h).length = 21 ∧ ∀ i, (rdL n l no h).getD i [] = bif rdS n i && Nat.blt i h then [lstP n i :: tabI (hsh (rdRl n l no i) (rdRn n l no i)) 32] else []
 | 0, _ => by
  refine ⟨rfl, fun i => ?_⟩
  rw [show Nat.blt i 0 = false by rw [Bool.eq_false_iff, Ne, Nat.blt_eq]; omega, Bool.and_false, cond_false]
  show (List.replicate 21 []).getD i [] = []
  rw [List.getD_eq_getElem?_getD, List.getElem?_replicate]
  split <;> rfl
 | h + 1, hh => by
  obtain ⟨i1, i2⟩ := rdL_shape n l no h (by omega)
  have st : rdL n l no (h + 1) = bif rdS n h then (rdL n l no h).set h [lstP n h :: tabI (hsh (rdRl n l no h) (rdRn n l no h)) 32] else rdL n l no h := rfl
  cases r : rdS n h
  ·rw [r, cond_false] at st
   rw [st]
   refine ⟨i1, fun i => ?_⟩
   rw [i2 i]
   by_cases q : i = h
   ·subst q; rw [r]; rfl
   ·rw [show Nat.blt i (h + 1) = Nat.blt i h by rw [Bool.eq_iff_iff, Nat.blt_eq, Nat.blt_eq]; omega]
  ·rw [r, cond_true] at st
   rw [st]
   refine ⟨by rw [List.length_set]; exact i1, fun i => ?_⟩
   by_cases q : h = i
   ·subst q
    rw [getD_set_eq (by omega), r, show Nat.blt h (h + 1) = true by rw [Nat.blt_eq]; omega]; rfl
   ·rw [getD_set_ne q, i2 i, show Nat.blt i (h + 1) = Nat.blt i h by rw [Bool.eq_iff_iff, Nat.blt_eq, Nat.blt_eq]; omega]
theorem toA_none {L : List (List (List Int))} (h : ∀ e ∈ L, e = []) : toA L = [] := by
 unfold toA
 rw [List.flatMap_eq_nil_iff]
 intro e he
 rw [h e he]; rfl
theorem toA_set {L : List (List (List Int))} {h : Nat} (hh : h < L.length) (hn : ∀ i, h ≤ i → L.getD i [] = []) (y : List Int) : toA (L.set h [y]) = toA L ++ [gA y] := by
 have d : ∀ e ∈ L.drop (h + 1), e = [] := fun e he => by
  obtain ⟨i, hi, rfl⟩ := List.mem_iff_getElem.1 he
  rw [List.length_drop] at hi
  have := hn (h + 1 + i) (by omega)
  rw [List.getD_eq_getElem?_getD, List.getElem?_eq_getElem (by omega)] at this
  rw [List.getElem_drop]; exact this
 have a := toA_split (L := L) hh
 rw [hn h (Nat.le_refl _), toA_none d] at a
 have b := toA_split (L := L.set h [y]) (i := h) (by rw [List.length_set]; exact hh)
 rw [getD_set_eq hh, List.take_set_of_le (Nat.le_refl _), List.drop_set_of_lt (Nat.lt_succ_self _), toA_none d] at b
 rw [b, a]
 show _ ++ ([gA y] ++ []) = (_ ++ ([] ++ [])) ++ [gA y]
 simp
theorem gA_new (p : Int) (a : Nat → Int) : gA (p :: tabI a 32) = (1048575 - p) :: tabI a 32 := by
 unfold gA; rw [plc_cons, hK_tab]
theorem al_toA (n : Int) (l : List Int) (no : Bool) : ∀ h, h ≤ 21 → rAl n l no h = toA (rdL n l no h) ∧ (rAl n l no h).length ≤ h
 | 0, _ => ⟨toA_nil.symm, Nat.le_refl _⟩
 | h + 1, hh => by
  obtain ⟨i1, i2⟩ := al_toA n l no h (by omega)
  obtain ⟨s1, s2⟩ := rdL_shape n l no h (by omega)
  have st : rdL n l no (h + 1) = bif rdS n h then (rdL n l no h).set h [lstP n h :: tabI (hsh (rdRl n l no h) (rdRn n l no h)) 32] else rdL n l no h := rfl
  have sa : rAl n l no (h + 1) = bif rdS n h then rAl n l no h ++ [(1048575 - lstP n h) :: tabI (hsh (rdRl n l no h) (rdRn n l no h)) 32] else rAl n l no h := rfl
  rw [st, sa]
  cases r : rdS n h
  ·exact ⟨i1, Nat.le_succ_of_le i2⟩
  ·rw [cond_true, cond_true]
   refine ⟨?_, by rw [List.length_append, List.length_cons, List.length_nil]; omega⟩
   rw [toA_set (by rw [s1]; omega) (fun i hi => by rw [s2 i, show Nat.blt i h = false by rw [Bool.eq_false_iff, Ne, Nat.blt_eq]; omega, Bool.and_false]; rfl), gA_new, i1]
theorem hg_lst {O : OO} {W : OW} (hw : W = wO O) {n : Int} {i : Nat} (hn : 0 ≤ n ∧ n ≤ 1048576) (hi : i < 21) (r : rdS n i = true) : W.hg (lstP n i) = (i : Int) ∧ 0 ≤ lstP n i ∧ lstP n i ≤ 1048575 := by
 subst hw
 obtain ⟨H, l1, l2, l3⟩ := rd_spec hn hi r
 refine ⟨?_, by omega, by omega⟩
 show hgF (lstP n i) = _
 obtain ⟨k, ek, _, K⟩ := ht_of (p := lstP n i) (by omega) (by omega)
 rw [ek, ht_uniq K H]
theorem hf_read {O : OO} {W : OW} (hw : W = wO O) {n : Int} (hn : 0 ≤ n ∧ n ≤ 1048576) (l : List Int) (no : Bool) : HF W (rdL n l no 21) := by
 obtain ⟨s1, s2⟩ := rdL_shape n l no 21 (Nat.le_refl _)
 refine ⟨s1, fun i x hx => ?_⟩
 rw [s2 i] at hx
 cases c : rdS n i && Nat.blt i 21
 ·rw [c] at hx; cases hx
 ·rw [c] at hx
  simp only [Bool.and_eq_true, Nat.blt_eq] at c
  have hx : x ∈ [lstP n i :: tabI (hsh (rdRl n l no i) (rdRn n l no i)) 32] := hx
  rw [List.mem_singleton.1 hx, plc_cons]
  exact hg_lst hw hn c.2 c.1
theorem prR_le {W : OW} {A : List (List Int)} {z : List Int} {i k : Nat} (hi : i < A.length) (hk : k ≤ i) : prR W (A ++ [z]) i k = prR W A i k := by
 unfold prR
 rw [Bool.eq_iff_iff, List.all_eq_true, List.all_eq_true]
 have g : ∀ j, j < A.length → (A ++ [z]).getD j [] = A.getD j [] := fun j hj => by
  rw [List.getD_eq_getElem?_getD, List.getElem?_append_left hj, ← List.getD_eq_getElem?_getD]
 constructor
 ·intro h j hj
  have := h j hj
  rwa [g i hi, g j (by have := List.mem_range.1 hj; omega)] at this
 ·intro h j hj
  rw [g i hi, g j (by have := List.mem_range.1 hj; omega)]
  exact h j hj
theorem prA_snoc {W : OW} {A : List (List Int)} {z : List Int} : prA W (A ++ [z]) (A ++ [z]).length = (prA W A A.length && A.all (prT W z)) := by
 rw [List.length_append]
 show prA W (A ++ [z]) (A.length + 1) = _
 unfold prA
 rw [List.range_succ, List.all_append, List.all_cons, List.all_nil, Bool.and_true]
 have gz : (A ++ [z]).getD A.length [] = z := by
  rw [List.getD_eq_getElem?_getD, List.getElem?_append_right (Nat.le_refl _), Nat.sub_self]; rfl
 have e1 : ((List.range A.length).all fun j => prR W (A ++ [z]) j j) = (List.range A.length).all fun j => prR W A j j := by
  rw [Bool.eq_iff_iff, List.all_eq_true, List.all_eq_true]
  constructor
  ·intro h j hj
   have := h j hj
   rwa [prR_le (List.mem_range.1 hj) (Nat.le_refl _)] at this
  ·intro h j hj
   rw [prR_le (List.mem_range.1 hj) (Nat.le_refl _)]; exact h j hj
 have e2 : prR W (A ++ [z]) A.length A.length = A.all (prT W z) := by
  unfold prR
  rw [gz, Bool.eq_iff_iff, List.all_eq_true, List.all_eq_true]
  constructor
  ·intro h x hx
   obtain ⟨j, hj, rfl⟩ := List.mem_iff_getElem.1 hx
   have := h j (List.mem_range.2 hj)
   rwa [List.getD_eq_getElem?_getD, List.getElem?_append_left hj, List.getElem?_eq_getElem hj] at this
  ·intro h j hj
   have hj := List.mem_range.1 hj
   rw [List.getD_eq_getElem?_getD, List.getElem?_append_left hj, List.getElem?_eq_getElem hj]
   exact h _ (List.getElem_mem hj)
 rw [e1, e2]
theorem prT_gA {W : OW} {p : Int} {h : Nat} (hp : W.hg p = (h : Int)) (a : Nat → Int) (x : List Int) : prT W ((1048575 - p) :: tabI a 32) (gA x) = bif iBeq ((plc x).fdiv (2 ^ h)) (p.fdiv (2 ^ h)) then eqv (AV (W.cm (h : Int) (plc x) (AV a))) (AV (hK x)) else true := by
 unfold prT cov8
 have e : pl8 ((1048575 - p) :: tabI a 32) = p := by show 1048575 - (1048575 - p) = p; omega
 rw [e, pl8_gA, hK_gA, hp, hK_cons, Int.toNat_natCast, beq_comm]
theorem cms_eq {O : OO} {W : OW} (hw : W = wO O) {n : Int} (hn : 0 ≤ n ∧ n ≤ 1048576) (l : List Int) (no : Bool) {h : Nat} (hh : h < 21) (r : rdS n h = true) (a : Nat → Int) : (rAl n l no h).all (prT W ((1048575 - lstP n h) :: tabI a 32)) = cmsAll W (rdL n l no h) (h : Int) (lstP n h) (AV a) h := by
 have hp := (hg_lst hw hn hh r).1
 obtain ⟨s1, s2⟩ := rdL_shape n l no h (by omega)
 rw [(al_toA n l no h (by omega)).1, Bool.eq_iff_iff]
 unfold cmsAll cmsE
 rw [List.all_eq_true, List.all_eq_true]
 constructor
 ·intro k i hi
  rw [List.all_eq_true]
  intro x hx
  have := k (gA x) (mem_toA.2 ⟨i, x, hx, rfl⟩)
  rw [prT_gA hp] at this
  rw [Int.toNat_natCast]; exact this
 ·intro k y hy
  obtain ⟨i, x, hx, rfl⟩ := mem_toA.1 hy
  have hi : i < h := by
   rw [s2 i] at hx
   cases c : rdS n i && Nat.blt i h
   ·rw [c] at hx; cases hx
   ·simp only [Bool.and_eq_true, Nat.blt_eq] at c; exact c.2
  have := k i (List.mem_range.2 hi)
  rw [List.all_eq_true] at this
  have := this x hx
  rw [Int.toNat_natCast] at this
  rw [prT_gA hp]; exact this
theorem prA_eq {O : OO} {W : OW} (hw : W = wO O) {n : Int} (hn : 0 ≤ n ∧ n ≤ 1048576) (l : List Int) (no : Bool) : ∀ h, h ≤ 21 → prA W (rAl n l no h) (rAl n l no h).length = rdB W n l no h
 | 0, _ => rfl
 | h + 1, hh => by
  have ih := prA_eq hw hn l no h (by omega)
  have sa : rAl n l no (h + 1) = bif rdS n h then rAl n l no h ++ [(1048575 - lstP n h) :: tabI (hsh (rdRl n l no h) (rdRn n l no h)) 32] else rAl n l no h := rfl
  have sB : rdB W n l no (h + 1) = bif rdB W n l no h then (bif rdS n h then cmsAll W (rdL n l no h) h (lstP n h) (AV (hsh (rdRl n l no h) (rdRn n l no h))) h else true) else false := rfl
  rw [sB, sa]
  cases r : rdS n h
  ·rw [cond_false, ih]
   cases rdB W n l no h <;> rfl
  ·rw [cond_true, prA_snoc, ih, cms_eq hw hn l no (by omega) r]
   cases rdB W n l no h <;> rfl
theorem rBy_snoc (A : List (List Int)) (z : List Int) : rBy (A ++ [z]) (A ++ [z]).length = rBy A A.length ++ tabI (hK z) 32 := by
 unfold rBy
 rw [List.take_length, List.take_length, List.flatMap_append, List.flatMap_cons, List.flatMap_nil, List.append_nil]
theorem al_bytes (n : Int) (l : List Int) : ∀ h, rdRn n l false h = false → l = rBy (rAl n l false h) (rAl n l false h).length ++ rdRl n l false h
 | 0, _ => rfl
 | h + 1, hf => by
  have sR : rdR n l false (h + 1) = bif rdS n h then (hshR (rdRl n l false h) (rdRn n l false h), hshN (rdRl n l false h) (rdRn n l false h)) else rdR n l false h := rfl
  have sa : rAl n l false (h + 1) = bif rdS n h then rAl n l false h ++ [(1048575 - lstP n h) :: tabI (hsh (rdRl n l false h) (rdRn n l false h)) 32] else rAl n l false h := rfl
  cases r : rdS n h
  ·rw [r] at sR sa
   have e1 : rdRn n l false (h + 1) = rdRn n l false h := congrArg Prod.snd sR
   have e2 : rdRl n l false (h + 1) = rdRl n l false h := congrArg Prod.fst sR
   have sa : rAl n l false (h + 1) = rAl n l false h := sa
   rw [sa, e2]
   exact al_bytes n l h (by rw [← e1]; exact hf)
  ·rw [r] at sR sa
   have e1 : rdRn n l false (h + 1) = hshN (rdRl n l false h) (rdRn n l false h) := congrArg Prod.snd sR
   have e2 : rdRl n l false (h + 1) = hshR (rdRl n l false h) (rdRn n l false h) := congrArg Prod.fst sR
   have sa : rAl n l false (h + 1) = rAl n l false h ++ [(1048575 - lstP n h) :: tabI (hsh (rdRl n l false h) (rdRn n l false h)) 32] := sa
   rw [e1] at hf
   have hb : hshB (rdRl n l false h) (rdRn n l false h) = false := by
    cases c : hshB (rdRl n l false h) (rdRn n l false h)
    ·rfl
    ·unfold hshN at hf; rw [c] at hf; cases hf
   have hn : rdRn n l false h = false := by
    cases c : rdRn n l false h
    ·rfl
    ·unfold hshB at hb; rw [c] at hb; cases hb
   have hl : 32 ≤ (rdRl n l false h).length := by
    unfold hshB at hb
    rw [hn, cond_false] at hb
    simp only [iLt_f] at hb
    omega
   have ih := al_bytes n l h hn
   have hb' : hshB (rdRl n l false h) false = false := by rw [hn] at hb; exact hb
   rw [sa, rBy_snoc, hK_tab, e2, hn]
   have e3 : hsh (rdRl n l false h) false = hashF ((rdRl n l false h).take 32) := by
    funext i
    unfold hsh
    rw [hb']; rfl
   have e4 : hshR (rdRl n l false h) false = (rdRl n l false h).drop 32 := by
    unfold hshR
    rw [hb']; rfl
   rw [e3, e4, tab_hash (by rw [List.length_take]; omega), List.append_assoc, List.take_append_drop]
   exact ih
theorem prA_at {W : OW} {A : List (List Int)} {i k : Nat} (hi : i < A.length) (hk : k < i) (h : prT W (A.getD i []) (A.getD k []) = false) : prA W A A.length = false := by
 unfold prA
 rw [List.all_eq_false]
 refine ⟨i, List.mem_range.2 hi, ?_⟩
 have : prR W A i i = false := by
  unfold prR
  rw [List.all_eq_false]
  exact ⟨k, List.mem_range.2 hk, by rw [h]; decide⟩
 rw [this]; decide
theorem prR_next {W : OW} {A : List (List Int)} {i k : Nat} : prR W A i (k + 1) = (prR W A i k && prT W (A.getD i []) (A.getD k [])) := by
 unfold prR
 rw [List.range_succ, List.all_append, List.all_cons, List.all_nil, Bool.and_true]
theorem prA_next {W : OW} {A : List (List Int)} {i : Nat} : prA W A (i + 1) = (prA W A i && prR W A i i) := by
 unfold prA
 rw [List.range_succ, List.all_append, List.all_cons, List.all_nil, Bool.and_true]

def p_rread (O : OO) (R : OB) (W : OW) (b : List Int) (bs : List Bool) : Post := match bs with
 | [false] => ⟨[.v (.pointer none), .v (.bool false)], []⟩
 | [true] => ⟨[.ptr 1 0, .v (.bool true)], [(1, .blk 57 [.v (.int .i64 (R.nV b)), .row 2]), (2, .ro (.structs KK (toA (rdLL R b))))]⟩
 | _ => ⟨[], []⟩
def g_rread (O : OO) (R : OB) (W : OW) (ds : List Dt) : Option (Bool × List Bool × (List Bool → Post)) := match ds with
 | [.ints b] => some ((Nat.ble b.length 1000000) && (byB b) && (iLe 0 (R.nV b)), [rdOk R W b], p_rread O R W b)
 | _ => none
set_option maxHeartbeats 4000000 in
theorem vc_rread_t (O : OO) (R : OB) (W : OW) (b : List Int) (X : Prop) (Y : Nat → Prop) (F : FO O) (hr : R = bO) (hw : W = wO O) (hB : ∀ m : Nat → Int, byB (tabI m 32) = true → O.isH (AV m) = true) (h0 : (Nat.ble b.length 1000000) = true) (h1 : (byB b) = true) (h2 : (iLe 0 (R.nV b)) = true)  (hX : rdOk R W b = false → X) (hY : rdOk R W b = true → rAl (R.nV b) (R.nR b) (rNo R b) 21 = toA (rdLL R b) → Y 21) :
 If (b.length.ble 1000000) (If (b.length.ble 1000000 && byB b) (If (!!bif R.nOk b then false else true) X (If (iLt 1048576 (R.nV b)) X ((∃ (x : Nat), x ≤ 21 ∧ (Value.int .i64 0 =
  Value.int .i64 (iOf x) ∧ Value.int .i64 (R.nV b) = Value.int .i64 (R.nV b) ∧ True) ∧ Value.bool (bif R.nOk b then false else true) = Value.bool (rdRn (R.nV b) (R.nR b) (rNo R b) x)
  ∧ EqI (R.nR b) (rdRl (R.nV b) (R.nR b) (rNo R b) x) ∧ Value.int .i64 (R.nV b) = Value.int .i64 (R.nV b) ∧ Cont.structs (KK) [] = Cont.structs (KK) (rAl (R.nV b) (R.nR b) (rNo R b)
  x) ∧ EqI b b ∧ EqI b b ∧ True) ∧ ∀ (x : Nat), x ≤ 21 → If (iLe (iOf x) 20) (If (iLe 0 (R.nV b) && iLe (R.nV b) 1048576 && (iLe 0 (iOf x) && iLe (iOf x) 20)) (If (iLe 0 (rLast (R.nV
  b) (iOf x))) (If ((rdRl (R.nV b) (R.nR b) (rNo R b) x).length.ble 1000000) (If ((nMul (nAdd (rAl (R.nV b) (R.nR b) (rNo R b) x).length 1) 40).ble 140737488355328 && (nAdd (rAl (R.nV
  b) (R.nR b) (rNo R b) x).length 1).ble 9223372036854775807) (∃ (x' : Nat), x' ≤ 21 ∧ (nSub 21 x').succ ≤ nSub 21 x ∧ (Value.int .i64 (IntKind.i64.wrap (iAdd (iOf x) 1)) = Value.int
  .i64 (iOf x') ∧ Value.int .i64 (R.nV b) = Value.int .i64 (R.nV b) ∧ True) ∧ Value.bool (hshN (rdRl (R.nV b) (R.nR b) (rNo R b) x) (rdRn (R.nV b) (R.nR b) (rNo R b) x)) = Value.bool
  (rdRn (R.nV b) (R.nR b) (rNo R b) x') ∧ EqI (hshR (rdRl (R.nV b) (R.nR b) (rNo R b) x) (rdRn (R.nV b) (R.nR b) (rNo R b) x)) (rdRl (R.nV b) (R.nR b) (rNo R b) x') ∧ Value.int .i64
  (R.nV b) = Value.int .i64 (R.nV b) ∧ Cont.structs (app [.i64] (app (List.replicate 32 .u8) [])) (app (rAl (R.nV b) (R.nR b) (rNo R b) x) [(rLast (R.nV b) (iOf x) :: tabI (hsh (rdRl
  (R.nV b) (R.nR b) (rNo R b) x) (rdRn (R.nV b) (R.nR b) (rNo R b) x)) 32)]) = Cont.structs (KK) (rAl (R.nV b) (R.nR b) (rNo R b) x') ∧ EqI b b ∧ EqI b b ∧ True) False) False) (∃ (x'
  : Nat), x' ≤ 21 ∧ (nSub 21 x').succ ≤ nSub 21 x ∧ (Value.int .i64 (IntKind.i64.wrap (iAdd (iOf x) 1)) = Value.int .i64 (iOf x') ∧ Value.int .i64 (R.nV b) = Value.int .i64 (R.nV b) ∧
  True) ∧ Value.bool (rdRn (R.nV b) (R.nR b) (rNo R b) x) = Value.bool (rdRn (R.nV b) (R.nR b) (rNo R b) x') ∧ EqI (rdRl (R.nV b) (R.nR b) (rNo R b) x) (rdRl (R.nV b) (R.nR b) (rNo R
  b) x') ∧ Value.int .i64 (R.nV b) = Value.int .i64 (R.nV b) ∧ Cont.structs (KK) (rAl (R.nV b) (R.nR b) (rNo R b) x) = Cont.structs (KK) (rAl (R.nV b) (R.nR b) (rNo R b) x') ∧ EqI b b
  ∧ EqI b b ∧ True)) False) (If (!!rdRn (R.nV b) (R.nR b) (rNo R b) x) X (If (iLt 0 (iOf (rdRl (R.nV b) (R.nR b) (rNo R b) x).length)) X (If (iLe 0 (R.nV b) && iLe (R.nV b) 1048576 &&
  okA O (rAl (R.nV b) (R.nR b) (rNo R b) x) && (rAl (R.nV b) (R.nR b) (rNo R b) x).length.ble 1000) (If (!(strOfNums (app (R.row (R.nV b)) (rBy (rAl (R.nV b) (R.nR b) (rNo R b) x)
  (rAl (R.nV b) (R.nR b) (rNo R b) x).length))).toList == (strOfNums b).toList) X ((∃ (x_1 : Nat), (x_1 ≤ (rAl (R.nV b) (R.nR b) (rNo R b) 21).length ∧ prA W (rAl (R.nV b) (R.nR b)
  (rNo R b) 21) x_1 = true) ∧ (Value.int .i64 0 = Value.int .i64 (iOf x_1) ∧ Value.int .i64 (R.nV b) = Value.int .i64 (R.nV b) ∧ True) ∧ Value.bool (rdRn (R.nV b) (R.nR b) (rNo R b)
  x) = Value.bool (rdRn (R.nV b) (R.nR b) (rNo R b) x) ∧ EqI (rdRl (R.nV b) (R.nR b) (rNo R b) x) (rdRl (R.nV b) (R.nR b) (rNo R b) x) ∧ Value.int .i64 (R.nV b) = Value.int .i64 (R.nV
  b) ∧ Cont.structs (KK) (rAl (R.nV b) (R.nR b) (rNo R b) x) = Cont.structs (KK) (rAl (R.nV b) (R.nR b) (rNo R b) x) ∧ EqI b b ∧ True) ∧ ∀ (x_1 : Nat), x_1 ≤ (rAl (R.nV b) (R.nR b)
  (rNo R b) 21).length ∧ prA W (rAl (R.nV b) (R.nR b) (rNo R b) 21) x_1 = true → If (iLt (iOf x_1) (iOf (Cont.structs KK (rAl (R.nV b) (R.nR b) (rNo R b) x)).n)) (∃ (x0 : Nat × Nat),
  ((x0.1.succ ≤ (rAl (R.nV b) (R.nR b) (rNo R b) 21).length ∧ x0.2 ≤ x0.1) ∧ prR W (rAl (R.nV b) (R.nR b) (rNo R b) 21) x0.1 x0.2 = true) ∧ ((Value.int .i64 (iOf x_1) = Value.int .i64
  (iOf x0.1) ∧ Value.int .i64 0 = Value.int .i64 (iOf x0.2) ∧ Value.int .i64 (R.nV b) = Value.int .i64 (R.nV b) ∧ True) ∧ Value.bool (rdRn (R.nV b) (R.nR b) (rNo R b) x) = Value.bool
  (rdRn (R.nV b) (R.nR b) (rNo R b) x) ∧ EqI (rdRl (R.nV b) (R.nR b) (rNo R b) x) (rdRl (R.nV b) (R.nR b) (rNo R b) x) ∧ Value.int .i64 (R.nV b) = Value.int .i64 (R.nV b) ∧
  Cont.structs (KK) (rAl (R.nV b) (R.nR b) (rNo R b) x) = Cont.structs (KK) (rAl (R.nV b) (R.nR b) (rNo R b) x) ∧ EqI b b ∧ True) ∧ ∀ (x_2 : Nat × Nat), (x_2.1.succ ≤ (rAl (R.nV b)
  (R.nR b) (rNo R b) 21).length ∧ x_2.2 ≤ x_2.1) ∧ prR W (rAl (R.nV b) (R.nR b) (rNo R b) 21) x_2.1 x_2.2 = true → x_2.1 = x0.1 → If (iLt (iOf x_2.2) (iOf x_2.1)) (If (iLe 0 (iOf
  x_2.1) && (iOf x_2.1).toNat.blt (rAl (R.nV b) (R.nR b) (rNo R b) x).length) (If ((iOf x_2.1).toNat.blt (rAl (R.nV b) (R.nR b) (rNo R b) x).length) (If (true && Nat.beq 33 33 && (iOf
  x_2.1).toNat.blt (rAl (R.nV b) (R.nR b) (rNo R b) x).length) (If (iLe (iNeg 1048576) (((rAl (R.nV b) (R.nR b) (rNo R b) x).getD (iOf x_2.1).toNat []).getD 0 0) && iLe (((rAl (R.nV
  b) (R.nR b) (rNo R b) x).getD (iOf x_2.1).toNat []).getD 0 0) 1048576) (If (iLe 0 (iOf x_2.snd) && (iOf x_2.2).toNat.blt (rAl (R.nV b) (R.nR b) (rNo R b) x).length) (If ((iOf
  x_2.2).toNat.blt (rAl (R.nV b) (R.nR b) (rNo R b) x).length) (If (true && Nat.beq 33 33 && (iOf x_2.2).toNat.blt (rAl (R.nV b) (R.nR b) (rNo R b) x).length) (If (iLe (iNeg 1048576)
  (((rAl (R.nV b) (R.nR b) (rNo R b) x).getD (iOf x_2.snd).toNat []).getD 0 0) && iLe (((rAl (R.nV b) (R.nR b) (rNo R b) x).getD (iOf x_2.snd).toNat []).getD 0 0) 1048576) (If (iLe 0
  (iSub 1048575 (((rAl (R.nV b) (R.nR b) (rNo R b) x).getD (iOf x_2.1).toNat []).getD 0 0)) && iLe (iSub 1048575 (((rAl (R.nV b) (R.nR b) (rNo R b) x).getD (iOf x_2.1).toNat []).getD
  0 0)) 1048575) (If (cov8 W (iSub 1048575 (((rAl (R.nV b) (R.nR b) (rNo R b) x).getD (iOf x_2.1).toNat []).getD 0 0)) (iSub 1048575 (((rAl (R.nV b) (R.nR b) (rNo R b) x).getD (iOf
  x_2.2).toNat []).getD 0 0))) (If (iLe 0 (iOf x_2.1) && (iOf x_2.1).toNat.blt (rAl (R.nV b) (R.nR b) (rNo R b) x).length) (If ((iOf x_2.1).toNat.blt (rAl (R.nV b) (R.nR b) (rNo R b)
  x).length) (If (true && Nat.beq 33 33 && (iOf x_2.1).toNat.blt (rAl (R.nV b) (R.nR b) (rNo R b) x).length) (If (iLe 0 (iSub 1048575 (((rAl (R.nV b) (R.nR b) (rNo R b) x).getD (iOf
  x_2.1).toNat []).getD 0 0)) && iLe (iSub 1048575 (((rAl (R.nV b) (R.nR b) (rNo R b) x).getD (iOf x_2.1).toNat []).getD 0 0)) 1048575) (If (iLe 0 (W.hg (iSub 1048575 (((rAl (R.nV b)
  (R.nR b) (rNo R b) x).getD (iOf x_2.1).toNat []).getD 0 0))) && iLe (W.hg (iSub 1048575 (((rAl (R.nV b) (R.nR b) (rNo R b) x).getD (iOf x_2.1).toNat []).getD 0 0))) 20 && O.isH (AV
  (hK ((rAl (R.nV b) (R.nR b) (rNo R b) x).getD (iOf x_2.1).toNat [])))) (If (iLe 0 (iOf x_2.snd) && (iOf x_2.2).toNat.blt (rAl (R.nV b) (R.nR b) (rNo R b) x).length) (If ((iOf
  x_2.2).toNat.blt (rAl (R.nV b) (R.nR b) (rNo R b) x).length) (If (true && Nat.beq 33 33 && (iOf x_2.2).toNat.blt (rAl (R.nV b) (R.nR b) (rNo R b) x).length) (If (!eqv (AV (W.cm
  (W.hg (iSub 1048575 (((rAl (R.nV b) (R.nR b) (rNo R b) x).getD (iOf x_2.1).toNat []).getD 0 0))) (iSub 1048575 (((rAl (R.nV b) (R.nR b) (rNo R b) x).getD (iOf x_2.2).toNat []).getD
  0 0)) (AV (hK ((rAl (R.nV b) (R.nR b) (rNo R b) x).getD (iOf x_2.1).toNat [])))) ) (AV (hK ((rAl (R.nV b) (R.nR b) (rNo R b) x).getD (iOf x_2.2).toNat [])))) X (∃ (x' : Nat × Nat),
  ((x'.1.succ ≤ (rAl (R.nV b) (R.nR b) (rNo R b) 21).length ∧ x'.2 ≤ x'.1) ∧ prR W (rAl (R.nV b) (R.nR b) (rNo R b) 21) x'.1 x'.2 = true) ∧ x'.1 = x0.1 ∧ (nSub x'.1 x'.2).succ ≤ nSub
  x_2.1 x_2.2 ∧ (Value.int .i64 (iOf x_2.1) = Value.int .i64 (iOf x'.1) ∧ Value.int .i64 (IntKind.i64.wrap (iAdd (iOf x_2.2) 1)) = Value.int .i64 (iOf x'.2) ∧ Value.int .i64 (R.nV b)
  = Value.int .i64 (R.nV b) ∧ True) ∧ Value.bool (rdRn (R.nV b) (R.nR b) (rNo R b) x) = Value.bool (rdRn (R.nV b) (R.nR b) (rNo R b) x) ∧ EqI (rdRl (R.nV b) (R.nR b) (rNo R b) x)
  (rdRl (R.nV b) (R.nR b) (rNo R b) x) ∧ Value.int .i64 (R.nV b) = Value.int .i64 (R.nV b) ∧ Cont.structs (KK) (rAl (R.nV b) (R.nR b) (rNo R b) x) = Cont.structs (KK) (rAl (R.nV b)
  (R.nR b) (rNo R b) x) ∧ EqI b b ∧ True)) False) False) False) False) False) False) False) False) (∃ (x' : Nat × Nat), ((x'.1.succ ≤ (rAl (R.nV b) (R.nR b) (rNo R b) 21).length ∧
  x'.2 ≤ x'.1) ∧ prR W (rAl (R.nV b) (R.nR b) (rNo R b) 21) x'.1 x'.2 = true) ∧ x'.1 = x0.1 ∧ (nSub x'.1 x'.2).succ ≤ nSub x_2.1 x_2.2 ∧ (Value.int .i64 (iOf x_2.1) = Value.int .i64
  (iOf x'.1) ∧ Value.int .i64 (IntKind.i64.wrap (iAdd (iOf x_2.2) 1)) = Value.int .i64 (iOf x'.2) ∧ Value.int .i64 (R.nV b) = Value.int .i64 (R.nV b) ∧ True) ∧ Value.bool (rdRn (R.nV
  b) (R.nR b) (rNo R b) x) = Value.bool (rdRn (R.nV b) (R.nR b) (rNo R b) x) ∧ EqI (rdRl (R.nV b) (R.nR b) (rNo R b) x) (rdRl (R.nV b) (R.nR b) (rNo R b) x) ∧ Value.int .i64 (R.nV b)
  = Value.int .i64 (R.nV b) ∧ Cont.structs (KK) (rAl (R.nV b) (R.nR b) (rNo R b) x) = Cont.structs (KK) (rAl (R.nV b) (R.nR b) (rNo R b) x) ∧ EqI b b ∧ True)) False) False) False)
  False) False) False) False) False) False) (∃ (x' : Nat), (x' ≤ (rAl (R.nV b) (R.nR b) (rNo R b) 21).length ∧ prA W (rAl (R.nV b) (R.nR b) (rNo R b) 21) x' = true) ∧ (nSub (rAl (R.nV
  b) (R.nR b) (rNo R b) 21).length x').succ ≤ nSub (rAl (R.nV b) (R.nR b) (rNo R b) 21).length x_1 ∧ (Value.int .i64 (IntKind.i64.wrap (iAdd (iOf x_2.1) 1)) = Value.int .i64 (iOf x')
  ∧ Value.int .i64 (R.nV b) = Value.int .i64 (R.nV b) ∧ True) ∧ Value.bool (rdRn (R.nV b) (R.nR b) (rNo R b) x) = Value.bool (rdRn (R.nV b) (R.nR b) (rNo R b) x) ∧ EqI (rdRl (R.nV b)
  (R.nR b) (rNo R b) x) (rdRl (R.nV b) (R.nR b) (rNo R b) x) ∧ Value.int .i64 (R.nV b) = Value.int .i64 (R.nV b) ∧ Cont.structs (KK) (rAl (R.nV b) (R.nR b) (rNo R b) x) = Cont.structs
  (KK) (rAl (R.nV b) (R.nR b) (rNo R b) x) ∧ EqI b b ∧ True)) (Y x))) False)))))) False) False := by
 obtain ⟨n, hn⟩ : ∃ n, R.nV b = n := ⟨_, rfl⟩
 obtain ⟨l, hl⟩ : ∃ l, R.nR b = l := ⟨_, rfl⟩
 obtain ⟨no, hno⟩ : ∃ no, rNo R b = no := ⟨_, rfl⟩
 have hD : rdOk R W b = bif rBad R b then false else bif rdB W n l no 21 then (bif rdRn n l no 21 then false else Nat.beq (rdRl n l no 21).length 0) else false := by subst hn hl hno; rfl
 have hBad : rBad R b = bif no then true else iLt 1048576 n := by subst hn hno; rfl
 have hLL : rdLL R b = rdL n l no 21 := by subst hn hl hno; rfl
 have en : (bif R.nOk b then false else true) = no := by rw [← hno]; rfl
 have hlb : byB l = true ∧ l.length ≤ 1000000 := by
  rw [← hl, hr]
  simp only [Nat.ble_eq] at h0
  exact ⟨nR_by b h1, Nat.le_trans (nR_len b) h0⟩
 have hbk : no = false → b = R.row n ++ l := fun q => by
  subst hr
  have k : (numG b 10 0 0).1 = true := by
   have e : bO.nOk b = (numG b 10 0 0).1 := rfl
   rw [← e]
   cases c : bO.nOk b
   ·rw [c, q] at en; cases en
   ·rfl
  have nb := (num_back h1 (v := (numG b 10 0 0).2.1) (m := (numG b 10 0 0).2.2) (Prod.ext k rfl)).2.2.1
  have e1 : bO.nR b = b.drop (numG b 10 0 0).2.2 := by
   show (bif (numG b 10 0 0).1 then b.drop (numG b 10 0 0).2.2 else []) = _
   rw [k]; rfl
  rw [← hn, ← hl, e1]
  exact nb
 rw [hn] at h2
 simp only [en, hn, hl, hno]
 refine Sx.if_true h0 (Sx.if_true (by rw [h0, h1]; rfl) (Sx.if_both (fun q1 => ?_) (fun q1 => Sx.if_both (fun q2 => ?_) (fun q2 => ?_))))
 ·have q : no = true := by simpa using q1
  have e : rdOk R W b = false := by rw [hD, hBad, q]; rfl
  exact hX e
 ·have q : no = false := by simpa using q1
  have e : rdOk R W b = false := by rw [hD, hBad, q, q2]; rfl
  exact hX e
 have q : no = false := by simpa using q1
 have hBad2 : rBad R b = false := by rw [hBad, q, q2]; rfl
 replace hD : rdOk R W b = bif rdB W n l no 21 then (bif rdRn n l no 21 then false else Nat.beq (rdRl n l no 21).length 0) else false := by rw [hD, hBad2]; rfl
 simp only [Bool.and_eq_true, Bool.or_eq_true, Sx.iLt_t, Sx.iLt_f, Sx.iLe_t, Sx.iLe_f, Sx.iEq_t, Sx.iEq_f, Sx.iBeq_t, Sx.iBeq_f, Sx.iBne_t, Sx.iBne_f, Nat.ble_eq, Nat.beq_eq, Sx.Cont.n] at h2 q2
 have n01 : 0 ≤ n ∧ n ≤ 1048576 := ⟨h2, by omega⟩
 subst q
 have hAL := fun h hh => al_toA n l false h hh
 have hRL : ∀ h, (rdRl n l false h).length ≤ l.length := rdRl_len n l false
 refine ⟨⟨0, by omega, (by repeat' (first | exact True.intro | exact rfl | refine ⟨?_, ?_⟩))⟩, fun x hx => ?_⟩
 have w1 : IntKind.i64.wrap (iAdd (iOf x) 1) = iOf (x + 1) := by simp only [Sx.app, Sx.nAdd, Sx.nSub, Sx.nMul, Sx.nPow, Sx.nDiv, Sx.nMod, Sx.iAdd, Sx.iSub, Sx.iMul, Sx.iNeg, Sx.iPow, Sx.iOf]; rw [IntKind.wrap_i64]; omega
 refine Sx.if_both (fun hlt => ?_) (fun hlt => ?_)
 ·simp only [Sx.app, Sx.nAdd, Sx.nSub, Sx.nMul, Sx.nPow, Sx.nDiv, Sx.nMod, Sx.iAdd, Sx.iSub, Sx.iMul, Sx.iNeg, Sx.iPow, Sx.iOf, Bool.and_eq_true, Bool.or_eq_true, Sx.iLt_t, Sx.iLt_f, Sx.iLe_t, Sx.iLe_f, Sx.iEq_t, Sx.iEq_f, Sx.iBeq_t, Sx.iBeq_f, Sx.iBne_t, Sx.iBne_f, Nat.ble_eq, Nat.beq_eq, Sx.Cont.n] at hlt
  have hx21 : x < 21 := by omega
  have sR : rdR n l false (x + 1) = bif rdS n x then (hshR (rdRl n l false x) (rdRn n l false x), hshN (rdRl n l false x) (rdRn n l false x)) else rdR n l false x := rfl
  have sA : rAl n l false (x + 1) = bif rdS n x then rAl n l false x ++ [(1048575 - lstP n x) :: tabI (hsh (rdRl n l false x) (rdRn n l false x)) 32] else rAl n l false x := rfl
  have sL : rLast n (iOf x) = bif rdS n x then 1048575 - lstP n x else -1 := by unfold rLast; rw [show (iOf x).toNat = x from Int.toNat_natCast x]; rfl
  have hal := (hAL x (by omega)).2
  have hrl := hRL x
  rw [w1]
  refine Sx.if_true (by simp only [Bool.and_eq_true, Bool.or_eq_true, Sx.iLt_t, Sx.iLt_f, Sx.iLe_t, Sx.iLe_f, Sx.iEq_t, Sx.iEq_f, Sx.iBeq_t, Sx.iBeq_f, Sx.iBne_t, Sx.iBne_f, Nat.ble_eq, Nat.beq_eq, Sx.Cont.n, Sx.app, Sx.nAdd, Sx.nSub, Sx.nMul, Sx.nPow, Sx.nDiv, Sx.nMod, Sx.iAdd, Sx.iSub, Sx.iMul, Sx.iNeg, Sx.iPow, Sx.iOf]; omega) ?_
  cases r : rdS n x
  ·rw [r] at sR sA sL
   have sL : rLast n (iOf x) = -1 := sL
   have e1 : rdRl n l false (x + 1) = rdRl n l false x := congrArg Prod.fst sR
   have e2 : rdRn n l false (x + 1) = rdRn n l false x := congrArg Prod.snd sR
   have e3 : rAl n l false (x + 1) = rAl n l false x := sA
   rw [sL]
   refine Sx.if_false rfl ⟨x + 1, by omega, by simp only [Sx.app, Sx.nAdd, Sx.nSub, Sx.nMul, Sx.nPow, Sx.nDiv, Sx.nMod, Sx.iAdd, Sx.iSub, Sx.iMul, Sx.iNeg, Sx.iPow, Sx.iOf]; omega, ?_⟩
   rw [e1, e2, e3]; exact (by repeat' (first | exact True.intro | exact rfl | refine ⟨?_, ?_⟩))
  ·rw [r] at sR sA sL
   have sL : rLast n (iOf x) = 1048575 - lstP n x := sL
   have e1 : rdRl n l false (x + 1) = hshR (rdRl n l false x) (rdRn n l false x) := congrArg Prod.fst sR
   have e2 : rdRn n l false (x + 1) = hshN (rdRl n l false x) (rdRn n l false x) := congrArg Prod.snd sR
   have e3 : rAl n l false (x + 1) = rAl n l false x ++ [(1048575 - lstP n x) :: tabI (hsh (rdRl n l false x) (rdRn n l false x)) 32] := sA
   have hp := hg_lst hw n01 hx21 r
   rw [sL]
   refine Sx.if_true (by simp only [Bool.and_eq_true, Bool.or_eq_true, Sx.iLt_t, Sx.iLt_f, Sx.iLe_t, Sx.iLe_f, Sx.iEq_t, Sx.iEq_f, Sx.iBeq_t, Sx.iBeq_f, Sx.iBne_t, Sx.iBne_f, Nat.ble_eq, Nat.beq_eq, Sx.Cont.n]; omega) (Sx.if_true (by simp only [Bool.and_eq_true, Bool.or_eq_true, Sx.iLt_t, Sx.iLt_f, Sx.iLe_t, Sx.iLe_f, Sx.iEq_t, Sx.iEq_f, Sx.iBeq_t, Sx.iBeq_f, Sx.iBne_t, Sx.iBne_f, Nat.ble_eq, Nat.beq_eq, Sx.Cont.n]; omega) (Sx.if_true (by simp only [Bool.and_eq_true, Bool.or_eq_true, Sx.iLt_t, Sx.iLt_f, Sx.iLe_t, Sx.iLe_f, Sx.iEq_t, Sx.iEq_f, Sx.iBeq_t, Sx.iBeq_f, Sx.iBne_t, Sx.iBne_f, Nat.ble_eq, Nat.beq_eq, Sx.Cont.n, Sx.app, Sx.nAdd, Sx.nSub, Sx.nMul, Sx.nPow, Sx.nDiv, Sx.nMod, Sx.iAdd, Sx.iSub, Sx.iMul, Sx.iNeg, Sx.iPow, Sx.iOf]; omega) ⟨x + 1, by omega, by simp only [Sx.app, Sx.nAdd, Sx.nSub, Sx.nMul, Sx.nPow, Sx.nDiv, Sx.nMod, Sx.iAdd, Sx.iSub, Sx.iMul, Sx.iNeg, Sx.iPow, Sx.iOf]; omega, ?_⟩))
   rw [e1, e2, e3]; exact (by repeat' (first | exact True.intro | exact rfl | refine ⟨?_, ?_⟩))
 simp only [Sx.app, Sx.nAdd, Sx.nSub, Sx.nMul, Sx.nPow, Sx.nDiv, Sx.nMod, Sx.iAdd, Sx.iSub, Sx.iMul, Sx.iNeg, Sx.iPow, Sx.iOf, Bool.and_eq_true, Bool.or_eq_true, Sx.iLt_t, Sx.iLt_f, Sx.iLe_t, Sx.iLe_f, Sx.iEq_t, Sx.iEq_f, Sx.iBeq_t, Sx.iBeq_f, Sx.iBne_t, Sx.iBne_f, Nat.ble_eq, Nat.beq_eq, Sx.Cont.n] at hlt
 obtain rfl : x = 21 := by omega
 have hHF := hf_read hw n01 l false
 have hOk : okL O (rdL n l false 21) = true := rdL_ok hB n l false hlb.1 21
 have hA0 := (hAL 21 (Nat.le_refl _)).1
 have hA1 := (hAL 21 (Nat.le_refl _)).2
 have okAL : okA O (rAl n l false 21) = true := by rw [hA0]; exact okA_toA hHF hOk
 have hPB := prA_eq hw n01 l false 21 (Nat.le_refl _)
 have hby := al_bytes n l 21
 obtain ⟨A, hA⟩ : ∃ A, rAl n l false 21 = A := ⟨_, rfl⟩
 rw [hA] at hA0 hA1 okAL hPB hby
 simp only [hA]
 refine Sx.if_both (fun q3 => ?_) (fun q3 => Sx.if_both (fun q4 => ?_) (fun q4 => ?_))
 ·have q : rdRn n l false 21 = true := by simpa using q3
  have e : rdOk R W b = false := by rw [hD, q]; cases rdB W n l false 21 <;> rfl
  exact hX e
 ·simp only [Bool.and_eq_true, Bool.or_eq_true, Sx.iLt_t, Sx.iLt_f, Sx.iLe_t, Sx.iLe_f, Sx.iEq_t, Sx.iEq_f, Sx.iBeq_t, Sx.iBeq_f, Sx.iBne_t, Sx.iBne_f, Nat.ble_eq, Nat.beq_eq, Sx.Cont.n, Sx.app, Sx.nAdd, Sx.nSub, Sx.nMul, Sx.nPow, Sx.nDiv, Sx.nMod, Sx.iAdd, Sx.iSub, Sx.iMul, Sx.iNeg, Sx.iPow, Sx.iOf] at q4
  have e : rdOk R W b = false := by
   rw [hD, show Nat.beq (rdRl n l false 21).length 0 = false by rw [Bool.eq_false_iff, Ne, Nat.beq_eq]; omega]
   cases rdB W n l false 21 <;> cases rdRn n l false 21 <;> rfl
  exact hX e
 have q3 : rdRn n l false 21 = false := by simpa using q3
 simp only [Bool.and_eq_true, Bool.or_eq_true, Sx.iLt_t, Sx.iLt_f, Sx.iLe_t, Sx.iLe_f, Sx.iEq_t, Sx.iEq_f, Sx.iBeq_t, Sx.iBeq_f, Sx.iBne_t, Sx.iBne_f, Nat.ble_eq, Nat.beq_eq, Sx.Cont.n, Sx.app, Sx.nAdd, Sx.nSub, Sx.nMul, Sx.nPow, Sx.nDiv, Sx.nMod, Sx.iAdd, Sx.iSub, Sx.iMul, Sx.iNeg, Sx.iPow, Sx.iOf] at q4
 have q5 : (rdRl n l false 21).length = 0 := by omega
 rw [q3, q5] at hD
 have hD : rdOk R W b = rdB W n l false 21 := by rw [hD]; cases rdB W n l false 21 <;> rfl
 have hby2 : app (R.row n) (rBy A A.length) = b := by
  have e := hby q3
  rw [List.eq_nil_of_length_eq_zero q5, List.append_nil] at e
  rw [hbk rfl]
  show R.row n ++ _ = R.row n ++ l
  rw [← e]
 rw [hby2, okAL]
 refine Sx.if_true (by simp only [Bool.and_eq_true, Bool.or_eq_true, Sx.iLt_t, Sx.iLt_f, Sx.iLe_t, Sx.iLe_f, Sx.iEq_t, Sx.iEq_f, Sx.iBeq_t, Sx.iBeq_f, Sx.iBne_t, Sx.iBne_f, Nat.ble_eq, Nat.beq_eq, Sx.Cont.n]; exact ⟨⟨by omega, trivial⟩, by omega⟩) (Sx.if_false (by simp) ?_)
 refine ⟨⟨0, ⟨Nat.zero_le _, rfl⟩, (by repeat' (first | exact True.intro | exact rfl | refine ⟨?_, ?_⟩))⟩, fun i ⟨i1, i2⟩ => ?_⟩
 refine Sx.if_both (fun d => ?_) (fun d => ?_)
 ·simp only [Bool.and_eq_true, Bool.or_eq_true, Sx.iLt_t, Sx.iLt_f, Sx.iLe_t, Sx.iLe_f, Sx.iEq_t, Sx.iEq_f, Sx.iBeq_t, Sx.iBeq_f, Sx.iBne_t, Sx.iBne_f, Nat.ble_eq, Nat.beq_eq, Sx.Cont.n, Sx.app, Sx.nAdd, Sx.nSub, Sx.nMul, Sx.nPow, Sx.nDiv, Sx.nMod, Sx.iAdd, Sx.iSub, Sx.iMul, Sx.iNeg, Sx.iPow, Sx.iOf] at d
  have hi : i < A.length := by omega
  refine ⟨(i, 0), ⟨⟨hi, Nat.zero_le _⟩, rfl⟩, (by repeat' (first | exact True.intro | exact rfl | refine ⟨?_, ?_⟩)), ?_⟩
  rintro ⟨i', k⟩ ⟨⟨_, k1⟩, k2⟩ ei
  have ei : i' = i := ei
  subst ei
  have k1 : k ≤ i' := k1
  have k2 : prR W A i' k = true := k2
  dsimp only
  have ni : (iOf i').toNat = i' := Int.toNat_natCast i'
  have nk : (iOf k).toNat = k := Int.toNat_natCast k
  rw [ni, nk]
  refine Sx.if_both (fun d2 => ?_) (fun d2 => ?_)
  ·simp only [Bool.and_eq_true, Bool.or_eq_true, Sx.iLt_t, Sx.iLt_f, Sx.iLe_t, Sx.iLe_f, Sx.iEq_t, Sx.iEq_f, Sx.iBeq_t, Sx.iBeq_f, Sx.iBne_t, Sx.iBne_f, Nat.ble_eq, Nat.beq_eq, Sx.Cont.n, Sx.app, Sx.nAdd, Sx.nSub, Sx.nMul, Sx.nPow, Sx.nDiv, Sx.nMod, Sx.iAdd, Sx.iSub, Sx.iMul, Sx.iNeg, Sx.iPow, Sx.iOf] at d2
   have hk : k < A.length := by omega
   have bi : i'.blt A.length = true := by rw [Nat.blt_eq]; exact hi
   have bk : k.blt A.length = true := by rw [Nat.blt_eq]; exact hk
   obtain ⟨y1, y2, y3⟩ := okA_at okAL hi
   obtain ⟨z1, z2, z3⟩ := okA_at okAL hk
   have hP : 0 ≤ W.hg (iSub 1048575 ((A.getD i' []).getD 0 0)) ∧ W.hg (iSub 1048575 ((A.getD i' []).getD 0 0)) ≤ 20 := hg_le hw _
   have sT : prT W (A.getD i' []) (A.getD k []) = bif cov8 W (iSub 1048575 ((A.getD i' []).getD 0 0)) (iSub 1048575 ((A.getD k []).getD 0 0)) then eqv (AV (W.cm (W.hg (iSub 1048575 ((A.getD i' []).getD 0 0))) (iSub 1048575 ((A.getD k []).getD 0 0)) (AV (hK (A.getD i' []))))) (AV (hK (A.getD k []))) else true := rfl
   have sN := prR_next (W := W) (A := A) (i := i') (k := k)
   have sF := prA_at (W := W) (A := A) hi (show k < i' by omega)
   have w2 : IntKind.i64.wrap (iAdd (iOf k) 1) = iOf (k + 1) := by simp only [Sx.app, Sx.nAdd, Sx.nSub, Sx.nMul, Sx.nPow, Sx.nDiv, Sx.nMod, Sx.iAdd, Sx.iSub, Sx.iMul, Sx.iNeg, Sx.iPow, Sx.iOf]; rw [IntKind.wrap_i64]; omega
   rw [k2, Bool.true_and] at sN
   obtain ⟨E, hE⟩ : ∃ E, eqv (AV (W.cm (W.hg (iSub 1048575 ((A.getD i' []).getD 0 0))) (iSub 1048575 ((A.getD k []).getD 0 0)) (AV (hK (A.getD i' []))))) (AV (hK (A.getD k []))) = E := ⟨_, rfl⟩
   obtain ⟨Cv, hCv⟩ : ∃ Cv, cov8 W (iSub 1048575 ((A.getD i' []).getD 0 0)) (iSub 1048575 ((A.getD k []).getD 0 0)) = Cv := ⟨_, rfl⟩
   rw [hE, hCv] at sT
   rw [bi, bk, w2, hE, hCv, y3]
   have xi : (iLe 0 (iOf i') && true) = true := by simp only [Bool.and_eq_true, Bool.or_eq_true, Sx.iLt_t, Sx.iLt_f, Sx.iLe_t, Sx.iLe_f, Sx.iEq_t, Sx.iEq_f, Sx.iBeq_t, Sx.iBeq_f, Sx.iBne_t, Sx.iBne_f, Nat.ble_eq, Nat.beq_eq, Sx.Cont.n, Sx.app, Sx.nAdd, Sx.nSub, Sx.nMul, Sx.nPow, Sx.nDiv, Sx.nMod, Sx.iAdd, Sx.iSub, Sx.iMul, Sx.iNeg, Sx.iPow, Sx.iOf]; exact ⟨by omega, trivial⟩
   have xk : (iLe 0 (iOf k) && true) = true := by simp only [Bool.and_eq_true, Bool.or_eq_true, Sx.iLt_t, Sx.iLt_f, Sx.iLe_t, Sx.iLe_f, Sx.iEq_t, Sx.iEq_f, Sx.iBeq_t, Sx.iBeq_f, Sx.iBne_t, Sx.iBne_f, Nat.ble_eq, Nat.beq_eq, Sx.Cont.n, Sx.app, Sx.nAdd, Sx.nSub, Sx.nMul, Sx.nPow, Sx.nDiv, Sx.nMod, Sx.iAdd, Sx.iSub, Sx.iMul, Sx.iNeg, Sx.iPow, Sx.iOf]; exact ⟨by omega, trivial⟩
   have hp0 : (iLe 0 (iSub 1048575 ((A.getD i' []).getD 0 0)) && iLe (iSub 1048575 ((A.getD i' []).getD 0 0)) 1048575) = true := by simp only [Bool.and_eq_true, Bool.or_eq_true, Sx.iLt_t, Sx.iLt_f, Sx.iLe_t, Sx.iLe_f, Sx.iEq_t, Sx.iEq_f, Sx.iBeq_t, Sx.iBeq_f, Sx.iBne_t, Sx.iBne_f, Nat.ble_eq, Nat.beq_eq, Sx.Cont.n, Sx.app, Sx.nAdd, Sx.nSub, Sx.nMul, Sx.nPow, Sx.nDiv, Sx.nMod, Sx.iAdd, Sx.iSub, Sx.iMul, Sx.iNeg, Sx.iPow, Sx.iOf]; omega
   refine Sx.if_true xi (Sx.if_true rfl (Sx.if_true rfl (Sx.if_true (by simp only [Bool.and_eq_true, Bool.or_eq_true, Sx.iLt_t, Sx.iLt_f, Sx.iLe_t, Sx.iLe_f, Sx.iEq_t, Sx.iEq_f, Sx.iBeq_t, Sx.iBeq_f, Sx.iBne_t, Sx.iBne_f, Nat.ble_eq, Nat.beq_eq, Sx.Cont.n, Sx.app, Sx.nAdd, Sx.nSub, Sx.nMul, Sx.nPow, Sx.nDiv, Sx.nMod, Sx.iAdd, Sx.iSub, Sx.iMul, Sx.iNeg, Sx.iPow, Sx.iOf]; omega) (Sx.if_true xk (Sx.if_true rfl (Sx.if_true rfl (Sx.if_true (by simp only [Bool.and_eq_true, Bool.or_eq_true, Sx.iLt_t, Sx.iLt_f, Sx.iLe_t, Sx.iLe_f, Sx.iEq_t, Sx.iEq_f, Sx.iBeq_t, Sx.iBeq_f, Sx.iBne_t, Sx.iBne_f, Nat.ble_eq, Nat.beq_eq, Sx.Cont.n, Sx.app, Sx.nAdd, Sx.nSub, Sx.nMul, Sx.nPow, Sx.nDiv, Sx.nMod, Sx.iAdd, Sx.iSub, Sx.iMul, Sx.iNeg, Sx.iPow, Sx.iOf]; omega) (Sx.if_true hp0 (Sx.if_both (fun p => ?_) (fun p => ?_))))))))))
   ·refine Sx.if_true xi (Sx.if_true rfl (Sx.if_true rfl (Sx.if_true hp0 (Sx.if_true (by rw [Bool.and_true]; simp only [Bool.and_eq_true, Bool.or_eq_true, Sx.iLt_t, Sx.iLt_f, Sx.iLe_t, Sx.iLe_f, Sx.iEq_t, Sx.iEq_f, Sx.iBeq_t, Sx.iBeq_f, Sx.iBne_t, Sx.iBne_f, Nat.ble_eq, Nat.beq_eq, Sx.Cont.n]; omega) (Sx.if_true xk (Sx.if_true rfl (Sx.if_true rfl (Sx.if_both (fun e => ?_) (fun e => ?_)))))))))
    ·have e : E = false := by simpa using e
     rw [p, e] at sT
     have e : rdOk R W b = false := by rw [hD, ← hPB]; exact sF sT
     exact hX e
    ·have e : E = true := by simpa using e
     rw [p, e] at sT
     exact ⟨(i', k + 1), ⟨⟨hi, by show k + 1 ≤ i'; omega⟩, sN.trans sT⟩, rfl, by simp only [Sx.app, Sx.nAdd, Sx.nSub, Sx.nMul, Sx.nPow, Sx.nDiv, Sx.nMod, Sx.iAdd, Sx.iSub, Sx.iMul, Sx.iNeg, Sx.iPow, Sx.iOf]; omega, (by repeat' (first | exact True.intro | exact rfl | refine ⟨?_, ?_⟩))⟩
   ·rw [p] at sT
    exact ⟨(i', k + 1), ⟨⟨hi, by show k + 1 ≤ i'; omega⟩, sN.trans sT⟩, rfl, by simp only [Sx.app, Sx.nAdd, Sx.nSub, Sx.nMul, Sx.nPow, Sx.nDiv, Sx.nMod, Sx.iAdd, Sx.iSub, Sx.iMul, Sx.iNeg, Sx.iPow, Sx.iOf]; omega, (by repeat' (first | exact True.intro | exact rfl | refine ⟨?_, ?_⟩))⟩
  ·simp only [Bool.and_eq_true, Bool.or_eq_true, Sx.iLt_t, Sx.iLt_f, Sx.iLe_t, Sx.iLe_f, Sx.iEq_t, Sx.iEq_f, Sx.iBeq_t, Sx.iBeq_f, Sx.iBne_t, Sx.iBne_f, Nat.ble_eq, Nat.beq_eq, Sx.Cont.n, Sx.app, Sx.nAdd, Sx.nSub, Sx.nMul, Sx.nPow, Sx.nDiv, Sx.nMod, Sx.iAdd, Sx.iSub, Sx.iMul, Sx.iNeg, Sx.iPow, Sx.iOf] at d2
   obtain rfl : k = i' := by omega
   have w3 : IntKind.i64.wrap (iAdd (iOf k) 1) = iOf (k + 1) := by simp only [Sx.app, Sx.nAdd, Sx.nSub, Sx.nMul, Sx.nPow, Sx.nDiv, Sx.nMod, Sx.iAdd, Sx.iSub, Sx.iMul, Sx.iNeg, Sx.iPow, Sx.iOf]; rw [IntKind.wrap_i64]; omega
   have sP := prA_next (W := W) (A := A) (i := k)
   rw [i2, k2] at sP
   rw [w3]
   exact ⟨k + 1, ⟨hi, sP⟩, by simp only [Sx.app, Sx.nAdd, Sx.nSub, Sx.nMul, Sx.nPow, Sx.nDiv, Sx.nMod, Sx.iAdd, Sx.iSub, Sx.iMul, Sx.iNeg, Sx.iPow, Sx.iOf]; omega, (by repeat' (first | exact True.intro | exact rfl | refine ⟨?_, ?_⟩))⟩
 ·simp only [Bool.and_eq_true, Bool.or_eq_true, Sx.iLt_t, Sx.iLt_f, Sx.iLe_t, Sx.iLe_f, Sx.iEq_t, Sx.iEq_f, Sx.iBeq_t, Sx.iBeq_f, Sx.iBne_t, Sx.iBne_f, Nat.ble_eq, Nat.beq_eq, Sx.Cont.n, Sx.app, Sx.nAdd, Sx.nSub, Sx.nMul, Sx.nPow, Sx.nDiv, Sx.nMod, Sx.iAdd, Sx.iSub, Sx.iMul, Sx.iNeg, Sx.iPow, Sx.iOf] at d
  obtain rfl : i = A.length := by omega
  have e : rdOk R W b = true := by rw [hD, ← hPB]; exact i2
  exact hY e (by rw [hn, hl, hno, hA, hLL]; exact hA0)
theorem wpc_rread_t (O : OO) (R : OB) (W : OW) (b : List Int) (F : FO O) (hr : R = bO) (hw : W = wO O) (hB : ∀ m : Nat → Int, byB (tabI m 32) = true → O.isH (AV m) = true) (h0 : (Nat.ble b.length 1000000) = true) (h1 : (byB b) = true) (h2 : (iLe 0 (R.nV b)) = true) (hb0 : (rdOk R W b) = true) : wpcI Tryd.prog (spD3 O R W) Tryd.f22.ntmps [⟨Nat, [0, 4, 5, 6], [(100004, 5, .ints .u8 []), (200006, 62, .structs KK [])], fun B h => [(7, .v (.int .i64 (h : Int)))], fun B h => [(256, .blk 86 [.row B, .v (.bool (rdRn (R.nV b) (R.nR b) (rNo R b) h))]), (B, .ro (.ints .u8 (rdRl (R.nV b) (R.nR b) (rNo R b) h))), (1152, .blk 57 [.v (.int .i64 (R.nV b)), .row (B + 1)]), (B + 1, .own 62 (.structs KK (rAl (R.nV b) (R.nR b) (rNo R b) h)))], fun h => h ≤ 21, fun h => 21 - h, 0⟩, ⟨Nat, [0, 4, 5, 6], [], fun B i => [(9, .v (.int .i64 (i : Int)))], fun B i => [], fun i => i ≤ (rAl (R.nV b) (R.nR b) (rNo R b) 21).length ∧ prA W (rAl (R.nV b) (R.nR b) (rNo R b) 21) i = true, fun i => (rAl (R.nV b) (R.nR b) (rNo R b) 21).length - i, 0⟩, ⟨Nat × Nat, [0, 4, 5, 6], [], fun B i => [(9, .v (.int .i64 (i.1 : Int))), (10, .v (.int .i64 (i.2 : Int)))], fun B i => [], fun i => (i.1 < (rAl (R.nV b) (R.nR b) (rNo R b) 21).length ∧ i.2 ≤ i.1) ∧ prR W (rAl (R.nV b) (R.nR b) (rNo R b) 21) i.1 i.2 = true, fun i => i.1 - i.2, .fix (fun i => i.1)⟩] (bodyOf Tryd.f22) 0 64 (envP (mks [.ro .u8] [.ints b] 0).1 0) (mks [.ro .u8] [.ints b] 0).2 (retP Tryd.prog Tryd.f22.results.toList 1 (p_rread O R W b [true] : Post)) :=
 Eq.mpr (by kernel_rfl) (vc_rread_t O R W b (((SV.v (Value.pointer none) = SV.ptr 1 0 ∧ Value.bool false = Value.bool true) ∧ True ∧ False)) (fun x : Nat => (Value.bool true = Value.bool true ∧ True ∧ Value.int IntKind.i64 (R.nV b) = Value.int IntKind.i64 (R.nV b) ∧ Cont.structs (KK) (rAl (R.nV b) (R.nR b) (rNo R b) x) = Cont.structs (KK) (toA (rdLL R b)) ∧ True)) F hr hw hB h0 h1 h2 (fun e => absurd (hb0.symm.trans e) (by decide)) (fun _ e => ⟨rfl, trivial, rfl, congrArg _ e, trivial⟩))
theorem wpc_rread_f (O : OO) (R : OB) (W : OW) (b : List Int) (F : FO O) (hr : R = bO) (hw : W = wO O) (hB : ∀ m : Nat → Int, byB (tabI m 32) = true → O.isH (AV m) = true) (h0 : (Nat.ble b.length 1000000) = true) (h1 : (byB b) = true) (h2 : (iLe 0 (R.nV b)) = true) (hb0 : (rdOk R W b) = false) : wpcI Tryd.prog (spD3 O R W) Tryd.f22.ntmps [⟨Nat, [0, 4, 5, 6], [(100004, 5, .ints .u8 []), (200006, 62, .structs KK [])], fun B h => [(7, .v (.int .i64 (h : Int)))], fun B h => [(256, .blk 86 [.row B, .v (.bool (rdRn (R.nV b) (R.nR b) (rNo R b) h))]), (B, .ro (.ints .u8 (rdRl (R.nV b) (R.nR b) (rNo R b) h))), (1152, .blk 57 [.v (.int .i64 (R.nV b)), .row (B + 1)]), (B + 1, .own 62 (.structs KK (rAl (R.nV b) (R.nR b) (rNo R b) h)))], fun h => h ≤ 21, fun h => 21 - h, 0⟩, ⟨Nat, [0, 4, 5, 6], [], fun B i => [(9, .v (.int .i64 (i : Int)))], fun B i => [], fun i => i ≤ (rAl (R.nV b) (R.nR b) (rNo R b) 21).length ∧ prA W (rAl (R.nV b) (R.nR b) (rNo R b) 21) i = true, fun i => (rAl (R.nV b) (R.nR b) (rNo R b) 21).length - i, 0⟩, ⟨Nat × Nat, [0, 4, 5, 6], [], fun B i => [(9, .v (.int .i64 (i.1 : Int))), (10, .v (.int .i64 (i.2 : Int)))], fun B i => [], fun i => (i.1 < (rAl (R.nV b) (R.nR b) (rNo R b) 21).length ∧ i.2 ≤ i.1) ∧ prR W (rAl (R.nV b) (R.nR b) (rNo R b) 21) i.1 i.2 = true, fun i => i.1 - i.2, .fix (fun i => i.1)⟩] (bodyOf Tryd.f22) 0 64 (envP (mks [.ro .u8] [.ints b] 0).1 0) (mks [.ro .u8] [.ints b] 0).2 (retP Tryd.prog Tryd.f22.results.toList 1 (p_rread O R W b [false] : Post)) :=
 Eq.mpr (by kernel_rfl) (vc_rread_t O R W b (((Value.pointer none = Value.pointer none ∧ Value.bool false = Value.bool false) ∧ True ∧ True)) (fun _ => False) F hr hw hB h0 h1 h2 (fun _ => ⟨⟨rfl, rfl⟩, trivial, trivial⟩) (fun e => absurd (hb0.symm.trans e) (by decide)))
theorem ok_rread (I : Sx.Interp) (O : OO) (hO : O = oo) (R : OB) (hR : R = bO) (W : OW) (hW : W = wO O) : Sx.SpecOK I Tryd.prog 22 (pspec [.ro .u8] true (g_rread O R W)) := by
 refine spec_pI (spD3_ok I O hO R hR W hW) (by kernel_rfl) (fun ds => match ds with | [.ints b] => [⟨Nat, [0, 4, 5, 6], [(100004, 5, .ints .u8 []), (200006, 62, .structs KK [])], fun B h => [(7, .v (.int .i64 (h : Int)))], fun B h => [(256, .blk 86 [.row B, .v (.bool (rdRn (R.nV b) (R.nR b) (rNo R b) h))]), (B, .ro (.ints .u8 (rdRl (R.nV b) (R.nR b) (rNo R b) h))), (1152, .blk 57 [.v (.int .i64 (R.nV b)), .row (B + 1)]), (B + 1, .own 62 (.structs KK (rAl (R.nV b) (R.nR b) (rNo R b) h)))], fun h => h ≤ 21, fun h => 21 - h, 0⟩, ⟨Nat, [0, 4, 5, 6], [], fun B i => [(9, .v (.int .i64 (i : Int)))], fun B i => [], fun i => i ≤ (rAl (R.nV b) (R.nR b) (rNo R b) 21).length ∧ prA W (rAl (R.nV b) (R.nR b) (rNo R b) 21) i = true, fun i => (rAl (R.nV b) (R.nR b) (rNo R b) 21).length - i, 0⟩, ⟨Nat × Nat, [0, 4, 5, 6], [], fun B i => [(9, .v (.int .i64 (i.1 : Int))), (10, .v (.int .i64 (i.2 : Int)))], fun B i => [], fun i => (i.1 < (rAl (R.nV b) (R.nR b) (rNo R b) 21).length ∧ i.2 ≤ i.1) ∧ prR W (rAl (R.nV b) (R.nR b) (rNo R b) 21) i.1 i.2 = true, fun i => i.1 - i.2, .fix (fun i => i.1)⟩] | _ => []) Tryd.func22 (by kernel_rfl) (by kernel_rfl) rfl Tryd.ntmps22 (by decide) ?_ ?_
 ·intro ds p bs F h
  unfold g_rread at h
  split at h
  ·rename_i b
   simp only [Option.some.injEq, Prod.mk.injEq] at h
   obtain ⟨_, rfl, rfl⟩ := h
   generalize (rdOk R W b) = t0
   cases t0 <;> kernel_rfl
  ·cases h
 ·intro ds bs F hl h
  unfold g_rread at h
  split at h
  ·rename_i b
   simp only [Option.some.injEq, Prod.mk.injEq, Bool.and_eq_true] at h
   obtain ⟨⟨⟨h0, h1⟩, h2⟩, rfl, rfl⟩ := h
   cases hb0 : (rdOk R W b) with
   | true => exact wpc_rread_t O R W b (fo_oo O hO) hR hW (fun m h => isH_by hO m h) (by first | exact h0 | (simp only [Bool.and_eq_true]; exact h0)) (by first | exact h1 | (simp only [Bool.and_eq_true]; exact h1)) (by first | exact h2 | (simp only [Bool.and_eq_true]; exact h2)) hb0
   | false => exact wpc_rread_f O R W b (fo_oo O hO) hR hW (fun m h => isH_by hO m h) (by first | exact h0 | (simp only [Bool.and_eq_true]; exact h0)) (by first | exact h1 | (simp only [Bool.and_eq_true]; exact h1)) (by first | exact h2 | (simp only [Bool.and_eq_true]; exact h2)) hb0
  ·cases h
end Go.Proofs.YtebffdgghkomjaaDoor
