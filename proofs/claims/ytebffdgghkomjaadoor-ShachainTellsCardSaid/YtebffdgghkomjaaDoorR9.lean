/- The rest of the other reading of code (corsnedref08), by the symbolic machine (printed by genR9.py; VCs by VcTool). -/
import Derived.Test.YtebffdgghkomjaaDoorR8
namespace Go.Proofs.YtebffdgghkomjaaDoor
open Go.RowKit Go.Lib Ckp Cfd Cpd Sx
set_option linter.unusedVariables false
set_option linter.unusedSimpArgs false
set_option maxRecDepth 1000000
/-- The first k bytes of a sum that is read. -/
def hk8 (l : List Int) (no : Bool) (k i : Nat) : Int := bif Nat.blt i k then hsh l no i else 0

theorem tab_len9 (f : Nat → Int) : ∀ n, (tabI f n).length = n
 | 0 => rfl
 | n + 1 => by rw [tabI, List.length_append, tab_len9 f n]; rfl
theorem tab_get9 (f : Nat → Int) : ∀ {n i : Nat}, i < n → (tabI f n)[i]? = some (f i)
 | n + 1, i, h => by
  rw [tabI]
  by_cases q : i < n
  ·rw [List.getElem?_append_left (by rw [tab_len9]; exact q)]; exact tab_get9 f q
  ·obtain rfl : i = n := by omega
   rw [List.getElem?_append_right (by rw [tab_len9]; exact Nat.le_refl _), tab_len9, Nat.sub_self]; rfl
theorem tab_none9 (f : Nat → Int) {n i : Nat} (h : n ≤ i) : (tabI f n)[i]? = none := by
 rw [List.getElem?_eq_none_iff, tab_len9]; exact h
theorem hk8_step {l : List Int} {no : Bool} {X : List Int} (hH : ∀ i, hsh l no i = hashF X i) {x : Nat} (hx : x < X.length) (h32 : x < 32) : setGo (tabI (hk8 l no x) 32) x (X.getD x 0) 32 0 = tabI (hk8 l no (x + 1)) 32 := by
 rw [setGo_eq (tab_len9 _ _)]
 apply List.ext_getElem?
 intro i
 rw [List.getElem?_set, tab_len9]
 by_cases q : i < 32
 ·rw [tab_get9 _ q, tab_get9 _ q]
  by_cases p : x = i
  ·subst p
   rw [if_pos rfl, if_pos q]
   congr 1
   unfold hk8
   rw [show Nat.blt x (x + 1) = true by rw [Nat.blt_eq]; omega, cond_true, hH]
   unfold hashF
   rw [show x.blt X.length = true by rw [Nat.blt_eq]; exact hx]; rfl
  ·rw [if_neg p]
   congr 1
   unfold hk8
   rw [show Nat.blt i (x + 1) = Nat.blt i x by rw [Bool.eq_iff_iff, Nat.blt_eq, Nat.blt_eq]; omega]
 ·rw [tab_none9 _ (by omega), tab_none9 _ (by omega)]
  split
  ·omega
  ·rfl
theorem AV_ext9 {f g : Nat → Int} (h : ∀ i, i < 32 → f i = g i) : AV f = AV g := by
 have : tabI f 32 = tabI g 32 := by
  apply List.ext_getElem?
  intro i
  by_cases q : i < 32
  ·rw [tab_get9 _ q, tab_get9 _ q, h i q]
  ·rw [tab_none9 _ (by omega), tab_none9 _ (by omega)]
 unfold AV; rw [this]
def g_next8 (O : OO) (R : OB) (ds : List Dt) : Option (Bool × List Bool × (List Bool → Post)) := match ds with
 | [.node [.ints l, .v (.bool no)], .v (.int .i64 n)] => some ((Nat.ble l.length 1000000) && (iLe 0 n), [], fun _ => ⟨[.row 2], [(2, .own 5 (.ints .u8 (bif (bif no then true else iLt (l.length : Int) n) then [] else l.take n.toNat))), (0, .blk 86 [.row 3, .v (.bool (bif (bif no then true else iLt (l.length : Int) n) then true else no))]), (3, .ro (.ints .u8 (bif (bif no then true else iLt (l.length : Int) n) then [] else l.drop n.toNat)))]⟩)
 | _ => none
set_option maxHeartbeats 4000000 in
theorem vc_next8 (O : OO) (R : OB) (l : List Int) (no : Bool) (n : Int) (F : FO O) (hr : R = bO) (h0 : (Nat.ble l.length 1000000) = true) (h1 : (iLe 0 n) = true) :
 If no (True ∧ EqI [] (bif bif no then true else iLt (iOf l.length) n then [] else List.take n.toNat l) ∧ Value.bool true = Value.bool (bif bif no then true else iLt (iOf l.length) n
  then true else no) ∧ EqI [] (bif bif no then true else iLt (iOf l.length) n then [] else List.drop n.toNat l) ∧ True) (If (iLt (iOf (Cont.ints .u8 l).n) n) (True ∧ EqI [] (bif bif
  no then true else iLt (iOf l.length) n then [] else List.take n.toNat l) ∧ Value.bool true = Value.bool (bif bif no then true else iLt (iOf l.length) n then true else no) ∧ EqI []
  (bif bif no then true else iLt (iOf l.length) n then [] else List.drop n.toNat l) ∧ True) (If (iLe 0 0 && iLe 0 n && iLe n (iOf (Cont.ints .u8 l).n)) (If ((nMul (nAdd 0 (List.take
  (nSub n.toNat 0) (List.drop 0 l)).length) 1).ble 140737488355328 && (nAdd 0 (List.take (nSub n.toNat 0) (List.drop 0 l)).length).ble 9223372036854775807) (If (iLe 0 n && iLe n (iOf
  (Cont.ints .u8 l).n) && iLe (iOf (Cont.ints .u8 l).n) (iOf (Cont.ints .u8 l).n)) (True ∧ EqI (app [] (List.take (nSub n.toNat 0) (List.drop 0 l))) (bif bif no then true else iLt
  (iOf l.length) n then [] else List.take n.toNat l) ∧ Value.bool no = Value.bool (bif bif no then true else iLt (iOf l.length) n then true else no) ∧ EqI (List.take (nSub (iOf
  l.length).toNat n.toNat) (List.drop n.toNat l)) (bif bif no then true else iLt (iOf l.length) n then [] else List.drop n.toNat l) ∧ True) False) False) False)) := by
 have h0' := Nat.le_of_ble_eq_true h0
 simp only [Bool.and_eq_true, Bool.or_eq_true, Sx.iLt_t, Sx.iLt_f, Sx.iLe_t, Sx.iLe_f, Sx.iEq_t, Sx.iEq_f, Sx.iBeq_t, Sx.iBeq_f, Sx.iBne_t, Sx.iBne_f, Nat.ble_eq, Nat.beq_eq, Sx.Cont.n] at h1
 cases no with
 | true => exact ⟨trivial, rfl, rfl, rfl, trivial⟩
 | false =>
  refine Sx.if_false rfl (Sx.if_both (fun h => ?_) (fun h => ?_))
  ·have h' : iLt (iOf l.length) n = true := h
   rw [h']
   exact ⟨trivial, rfl, rfl, rfl, trivial⟩
  ·have h' : iLt (iOf l.length) n = false := h
   rw [h']
   simp only [Sx.app, Sx.nAdd, Sx.nSub, Sx.nMul, Sx.nPow, Sx.nDiv, Sx.nMod, Sx.iAdd, Sx.iSub, Sx.iMul, Sx.iNeg, Sx.iPow, Sx.iOf, Bool.and_eq_true, Bool.or_eq_true, Sx.iLt_t, Sx.iLt_f, Sx.iLe_t, Sx.iLe_f, Sx.iEq_t, Sx.iEq_f, Sx.iBeq_t, Sx.iBeq_f, Sx.iBne_t, Sx.iBne_f, Nat.ble_eq, Nat.beq_eq, Sx.Cont.n] at h'
   refine Sx.if_true (by simp only [Sx.app, Sx.nAdd, Sx.nSub, Sx.nMul, Sx.nPow, Sx.nDiv, Sx.nMod, Sx.iAdd, Sx.iSub, Sx.iMul, Sx.iNeg, Sx.iPow, Sx.iOf, Bool.and_eq_true, Bool.or_eq_true, Sx.iLt_t, Sx.iLt_f, Sx.iLe_t, Sx.iLe_f, Sx.iEq_t, Sx.iEq_f, Sx.iBeq_t, Sx.iBeq_f, Sx.iBne_t, Sx.iBne_f, Nat.ble_eq, Nat.beq_eq, Sx.Cont.n]; omega) (Sx.if_true (by simp only [Sx.app, Sx.nAdd, Sx.nSub, Sx.nMul, Sx.nPow, Sx.nDiv, Sx.nMod, Sx.iAdd, Sx.iSub, Sx.iMul, Sx.iNeg, Sx.iPow, Sx.iOf, Bool.and_eq_true, Bool.or_eq_true, Sx.iLt_t, Sx.iLt_f, Sx.iLe_t, Sx.iLe_f, Sx.iEq_t, Sx.iEq_f, Sx.iBeq_t, Sx.iBeq_f, Sx.iBne_t, Sx.iBne_f, Nat.ble_eq, Nat.beq_eq, Sx.Cont.n, List.length_take, List.length_drop]; omega) (Sx.if_true (by simp only [Sx.app, Sx.nAdd, Sx.nSub, Sx.nMul, Sx.nPow, Sx.nDiv, Sx.nMod, Sx.iAdd, Sx.iSub, Sx.iMul, Sx.iNeg, Sx.iPow, Sx.iOf, Bool.and_eq_true, Bool.or_eq_true, Sx.iLt_t, Sx.iLt_f, Sx.iLe_t, Sx.iLe_f, Sx.iEq_t, Sx.iEq_f, Sx.iBeq_t, Sx.iBeq_f, Sx.iBne_t, Sx.iBne_f, Nat.ble_eq, Nat.beq_eq, Sx.Cont.n]; omega) ⟨trivial, ?_, rfl, ?_, trivial⟩))
   ·simp [EqI, Sx.app, Sx.nAdd, Sx.nSub, Sx.nMul, Sx.nPow, Sx.nDiv, Sx.nMod, Sx.iAdd, Sx.iSub, Sx.iMul, Sx.iNeg, Sx.iPow, Sx.iOf]
   ·show List.take ((l.length : Int).toNat - n.toNat) (List.drop n.toNat l) = List.drop n.toNat l
    rw [Int.toNat_natCast, List.take_of_length_le]
    simp
theorem wpc_next8 (O : OO) (R : OB) (l : List Int) (no : Bool) (n : Int) (F : FO O) (hr : R = bO) (h0 : (Nat.ble l.length 1000000) = true) (h1 : (iLe 0 n) = true) : wpcI Tryd.prog (spT3 O R) Tryd.f60.ntmps [] (bodyOf Tryd.f60) 0 64 (envP (mks [.obj 86 [.ro .u8, .v], .v] [.node [.ints l, .v (.bool no)], .v (.int .i64 n)] 0).1 0) (mks [.obj 86 [.ro .u8, .v], .v] [.node [.ints l, .v (.bool no)], .v (.int .i64 n)] 0).2 (retPA [(4, 5, .ints .u8 []), (100000, 5, .ints .u8 [])] Tryd.prog Tryd.f60.results.toList 2 (⟨[.row 2], [(2, .own 5 (.ints .u8 (bif (bif no then true else iLt (l.length : Int) n) then [] else l.take n.toNat))), (0, .blk 86 [.row 3, .v (.bool (bif (bif no then true else iLt (l.length : Int) n) then true else no))]), (3, .ro (.ints .u8 (bif (bif no then true else iLt (l.length : Int) n) then [] else l.drop n.toNat)))]⟩ : Post)) :=
 Eq.mpr (by kernel_rfl) (vc_next8 O R l no n F hr h0 h1)
theorem ok_next8 (I : Sx.Interp) (O : OO) (hO : O = oo) (R : OB) (hR : R = bO) : Sx.SpecOK I Tryd.prog 60 (pspec [.obj 86 [.ro .u8, .v], .v] true (g_next8 O R)) := by
 refine spec_pAI (spT3_ok I O hO R hR) (by kernel_rfl) (fun ds => match ds with | [.node [.ints l, .v (.bool no)], .v (.int .i64 n)] => [] | _ => []) (fun ds => match ds with | [.node [.ints l, .v (.bool no)], .v (.int .i64 n)] => [(4, 5, .ints .u8 []), (100000, 5, .ints .u8 [])] | _ => []) Tryd.func60 (by kernel_rfl) (by kernel_rfl) rfl Tryd.ntmps60 (by decide) ?_ ?_
 ·intro ds p bs F h
  unfold g_next8 at h
  split at h
  ·rename_i l no n
   simp only [Option.some.injEq, Prod.mk.injEq] at h
   obtain ⟨_, _, rfl⟩ := h
   kernel_rfl
  ·cases h
 ·intro ds bs F hl h
  unfold g_next8 at h
  split at h
  ·rename_i l no n
   simp only [Option.some.injEq, Prod.mk.injEq, Bool.and_eq_true] at h
   obtain ⟨⟨h0, h1⟩, _, rfl⟩ := h
   exact wpc_next8 O R l no n (fo_oo O hO) hR (by first | exact h0 | (simp only [Bool.and_eq_true]; exact h0)) (by first | exact h1 | (simp only [Bool.and_eq_true]; exact h1))
  ·cases h
def spT4 (O : OO) (R : OB) (f : FuncId) : Option Sx.Spec := match f with
 | 60 => some (pspec [.obj 86 [.ro .u8, .v], .v] true (g_next8 O R))
 | f => spT3 O R f
theorem spT4_ok (I : Sx.Interp) (O : OO) (hO : O = oo) (R : OB) (hR : R = bO) : ∀ f s, spT4 O R f = some s → Sx.SpecOK I Tryd.prog f s := by
 intro f s h
 unfold spT4 at h
 split at h
 · cases h; exact ok_next8 I O hO R hR
 ·exact spT3_ok I O hO R hR _ s h
def g_hash8 (O : OO) (R : OB) (ds : List Dt) : Option (Bool × List Bool × (List Bool → Post)) := match ds with
 | [.node [.ints l, .v (.bool no)]] => some ((Nat.ble l.length 1000000), [], fun _ => ⟨[.v (.agg (AV (hsh l no)))], [(0, .blk 86 [.row 2, .v (.bool (hshN l no))]), (2, .ro (.ints .u8 (hshR l no)))]⟩)
 | _ => none
set_option maxHeartbeats 4000000 in
theorem vc_hash8 (O : OO) (R : OB) (l : List Int) (no : Bool) (F : FO O) (hr : R = bO) (h0 : (Nat.ble l.length 1000000) = true) :
 If (l.length.ble 1000000 && iLe 0 32) ((∃ (x : Nat), x ≤ (bif hshB l no then [] else List.take 32 l).length ∧ (Value.int .i64 0 = Value.int .i64 (iOf x) ∧ True) ∧ Array.mk
  (List.replicate 32 (Value.int .u8 0)) = AV (hk8 l no x) ∧ EqI (bif bif no then true else iLt (iOf l.length) 32 then [] else List.take 32 l) (bif bif no then true else iLt (iOf
  l.length) 32 then [] else List.take 32 l) ∧ Value.bool (bif bif no then true else iLt (iOf l.length) 32 then true else no) = Value.bool (bif bif no then true else iLt (iOf l.length)
  32 then true else no) ∧ EqI (bif bif no then true else iLt (iOf l.length) 32 then [] else List.drop 32 l) (bif bif no then true else iLt (iOf l.length) 32 then [] else List.drop 32
  l) ∧ Array.mk (List.replicate 32 (Value.int .u8 0)) = Array.mk (List.replicate 32 (Value.int .u8 0)) ∧ EqI l l ∧ True) ∧ ∀ (x : Nat), x ≤ (bif hshB l no then [] else List.take 32
  l).length → If (iLt (iOf x) (iOf (Cont.ints .u8 (bif bif no then true else iLt (iOf l.length) 32 then [] else List.take (Int.toNat 32) l)).n)) (If (iLe 0 (iOf x) && (iOf
  x).toNat.blt (bif bif no then true else iLt (iOf l.length) 32 then [] else List.take 32 l).length) (If (true && Nat.beq 1 1 && (iOf x).toNat.blt (bif bif no then true else iLt (iOf
  l.length) 32 then [] else List.take 32 l).length) (If (iLe 0 (iOf x) && (iOf x).toNat.blt 32) (If (Nat.beq 1 1 && true && (nAdd 0 (nMul (iOf x).toNat 1)).blt 32) (∃ (x' : Nat), x' ≤
  (bif hshB l no then [] else List.take 32 l).length ∧ (nSub 32 x').succ ≤ nSub 32 x ∧ (Value.int .i64 (IntKind.i64.wrap (iAdd (iOf x) 1)) = Value.int .i64 (iOf x') ∧ True) ∧ Array.mk
  (List.map (Value.int .u8) (Sx.setGo (tabI (hk8 l no x) 32) (nAdd 0 (nMul (iOf x).toNat 1)) ((bif bif no then true else iLt (iOf l.length) 32 then [] else List.take 32 l).getD (iOf
  x).toNat 0) 32 0)) = AV (hk8 l no x') ∧ EqI (bif bif no then true else iLt (iOf l.length) 32 then [] else List.take 32 l) (bif bif no then true else iLt (iOf l.length) 32 then []
  else List.take 32 l) ∧ Value.bool (bif bif no then true else iLt (iOf l.length) 32 then true else no) = Value.bool (bif bif no then true else iLt (iOf l.length) 32 then true else
  no) ∧ EqI (bif bif no then true else iLt (iOf l.length) 32 then [] else List.drop 32 l) (bif bif no then true else iLt (iOf l.length) 32 then [] else List.drop 32 l) ∧ Array.mk
  (List.replicate 32 (Value.int .u8 0)) = Array.mk (List.replicate 32 (Value.int .u8 0)) ∧ EqI l l ∧ True) False) False) False) False) (Value.agg (AV (hk8 l no x)) = Value.agg (AV
  (hsh l no)) ∧ True ∧ Value.bool (bif bif no then true else iLt (iOf l.length) 32 then true else no) = Value.bool (hshN l no) ∧ EqI (bif bif no then true else iLt (iOf l.length) 32
  then [] else List.drop 32 l) (hshR l no) ∧ True)) False := by
 have h0' := Nat.le_of_ble_eq_true h0
 have hS0 : (bif bif no then true else iLt (iOf l.length) 32 then [] else List.take 32 l) = (bif hshB l no then [] else List.take 32 l) := rfl
 have hS1 : (bif bif no then true else iLt (iOf l.length) 32 then [] else List.take (Int.toNat 32) l) = (bif hshB l no then [] else List.take 32 l) := rfl
 have hN : (bif bif no then true else iLt (iOf l.length) 32 then true else no) = hshN l no := rfl
 have hRR : (bif bif no then true else iLt (iOf l.length) 32 then [] else List.drop 32 l) = hshR l no := rfl
 rw [hS0, hS1, hN, hRR]
 have hH : ∀ i, hsh l no i = hashF (bif hshB l no then [] else List.take 32 l) i := fun i => rfl
 have hlen : (bif hshB l no then [] else List.take 32 l).length ≤ 32 := by
  cases hshB l no
  ·rw [cond_false, List.length_take]; omega
  ·exact Nat.zero_le _
 generalize (bif hshB l no then [] else List.take 32 l) = X at *
 refine Sx.if_true (by simp only [Bool.and_eq_true, Bool.or_eq_true, Sx.iLt_t, Sx.iLt_f, Sx.iLe_t, Sx.iLe_f, Sx.iEq_t, Sx.iEq_f, Sx.iBeq_t, Sx.iBeq_f, Sx.iBne_t, Sx.iBne_f, Nat.ble_eq, Nat.beq_eq, Sx.Cont.n]; exact ⟨h0', by omega⟩) ⟨⟨0, Nat.zero_le _, ⟨rfl, trivial⟩, ?_, rfl, rfl, rfl, rfl, rfl, trivial⟩, fun x hx => ?_⟩
 ·have e : hk8 l no 0 = fun _ => 0 := by funext i; unfold hk8; rw [show Nat.blt i 0 = false by rw [Bool.eq_false_iff, Ne, Nat.blt_eq]; omega]; rfl
  rw [e]; rfl
 have hn : (iOf x).toNat = x := by simp only [Sx.app, Sx.nAdd, Sx.nSub, Sx.nMul, Sx.nPow, Sx.nDiv, Sx.nMod, Sx.iAdd, Sx.iSub, Sx.iMul, Sx.iNeg, Sx.iPow, Sx.iOf, Int.toNat_natCast]
 rw [hn]
 refine Sx.if_both (fun d => ?_) (fun d => ?_)
 ·simp only [Bool.and_eq_true, Bool.or_eq_true, Sx.iLt_t, Sx.iLt_f, Sx.iLe_t, Sx.iLe_f, Sx.iEq_t, Sx.iEq_f, Sx.iBeq_t, Sx.iBeq_f, Sx.iBne_t, Sx.iBne_f, Nat.ble_eq, Nat.beq_eq, Sx.Cont.n, Sx.app, Sx.nAdd, Sx.nSub, Sx.nMul, Sx.nPow, Sx.nDiv, Sx.nMod, Sx.iAdd, Sx.iSub, Sx.iMul, Sx.iNeg, Sx.iPow, Sx.iOf] at d
  have hx' : x < X.length := by omega
  have hb : x.blt X.length = true := by rw [Nat.blt_eq]; exact hx'
  have hb2 : x.blt 32 = true := by rw [Nat.blt_eq]; omega
  have w1 : IntKind.i64.wrap (iAdd (iOf x) 1) = iOf (x + 1) := by simp only [Sx.app, Sx.nAdd, Sx.nSub, Sx.nMul, Sx.nPow, Sx.nDiv, Sx.nMod, Sx.iAdd, Sx.iSub, Sx.iMul, Sx.iNeg, Sx.iPow, Sx.iOf]; rw [IntKind.wrap_i64]; omega
  have hx1 : nAdd 0 (nMul x 1) = x := by simp only [Sx.app, Sx.nAdd, Sx.nSub, Sx.nMul, Sx.nPow, Sx.nDiv, Sx.nMod, Sx.iAdd, Sx.iSub, Sx.iMul, Sx.iNeg, Sx.iPow, Sx.iOf]; omega
  rw [hb, hb2, w1, hx1, hb2]
  refine Sx.if_true (by simp only [Bool.and_eq_true, Bool.or_eq_true, Sx.iLt_t, Sx.iLt_f, Sx.iLe_t, Sx.iLe_f, Sx.iEq_t, Sx.iEq_f, Sx.iBeq_t, Sx.iBeq_f, Sx.iBne_t, Sx.iBne_f, Nat.ble_eq, Nat.beq_eq, Sx.Cont.n, Sx.app, Sx.nAdd, Sx.nSub, Sx.nMul, Sx.nPow, Sx.nDiv, Sx.nMod, Sx.iAdd, Sx.iSub, Sx.iMul, Sx.iNeg, Sx.iPow, Sx.iOf]; exact ⟨by omega, trivial⟩) (Sx.if_true rfl (Sx.if_true (by simp only [Bool.and_eq_true, Bool.or_eq_true, Sx.iLt_t, Sx.iLt_f, Sx.iLe_t, Sx.iLe_f, Sx.iEq_t, Sx.iEq_f, Sx.iBeq_t, Sx.iBeq_f, Sx.iBne_t, Sx.iBne_f, Nat.ble_eq, Nat.beq_eq, Sx.Cont.n, Sx.app, Sx.nAdd, Sx.nSub, Sx.nMul, Sx.nPow, Sx.nDiv, Sx.nMod, Sx.iAdd, Sx.iSub, Sx.iMul, Sx.iNeg, Sx.iPow, Sx.iOf]; exact ⟨by omega, trivial⟩) (Sx.if_true rfl ⟨x + 1, hx', by simp only [Sx.app, Sx.nAdd, Sx.nSub, Sx.nMul, Sx.nPow, Sx.nDiv, Sx.nMod, Sx.iAdd, Sx.iSub, Sx.iMul, Sx.iNeg, Sx.iPow, Sx.iOf]; omega, ⟨rfl, trivial⟩, ?_, rfl, rfl, rfl, rfl, rfl, trivial⟩)))
  exact congrArg (fun l => Array.mk (List.map (Value.int IntKind.u8) l)) (hk8_step hH hx' (by omega))
 ·simp only [Bool.and_eq_true, Bool.or_eq_true, Sx.iLt_t, Sx.iLt_f, Sx.iLe_t, Sx.iLe_f, Sx.iEq_t, Sx.iEq_f, Sx.iBeq_t, Sx.iBeq_f, Sx.iBne_t, Sx.iBne_f, Nat.ble_eq, Nat.beq_eq, Sx.Cont.n, Sx.app, Sx.nAdd, Sx.nSub, Sx.nMul, Sx.nPow, Sx.nDiv, Sx.nMod, Sx.iAdd, Sx.iSub, Sx.iMul, Sx.iNeg, Sx.iPow, Sx.iOf] at d
  obtain rfl : x = X.length := by omega
  refine ⟨congrArg Value.agg (AV_ext9 fun i hi => ?_), trivial, rfl, rfl, trivial⟩
  rw [hH]
  unfold hk8 hashF
  cases c : Nat.blt i X.length
  ·rfl
  ·rw [cond_true, cond_true, hH]; unfold hashF; rw [c]; rfl
theorem wpc_hash8 (O : OO) (R : OB) (l : List Int) (no : Bool) (F : FO O) (hr : R = bO) (h0 : (Nat.ble l.length 1000000) = true) : wpcI Tryd.prog (spT4 O R) Tryd.f44.ntmps [⟨Nat, [0, 2, 3], [(4, 23, .ints .u8 [])], fun B k => [(4, .ptr B 0), (5, .v (.int .i64 (k : Nat)))], fun B k => [(B, .arr 23 32 (AV (hk8 l no k)))], fun k => k ≤ (bif hshB l no then [] else l.take 32).length, fun k => 32 - k, 0⟩] (bodyOf Tryd.f44) 0 64 (envP (mks [.obj 86 [.ro .u8, .v]] [.node [.ints l, .v (.bool no)]] 0).1 0) (mks [.obj 86 [.ro .u8, .v]] [.node [.ints l, .v (.bool no)]] 0).2 (retP Tryd.prog Tryd.f44.results.toList 2 (⟨[.v (.agg (AV (hsh l no)))], [(0, .blk 86 [.row 2, .v (.bool (hshN l no))]), (2, .ro (.ints .u8 (hshR l no)))]⟩ : Post)) :=
 Eq.mpr (by kernel_rfl) (vc_hash8 O R l no F hr h0)
theorem ok_hash8 (I : Sx.Interp) (O : OO) (hO : O = oo) (R : OB) (hR : R = bO) : Sx.SpecOK I Tryd.prog 44 (pspec [.obj 86 [.ro .u8, .v]] true (g_hash8 O R)) := by
 refine spec_pI (spT4_ok I O hO R hR) (by kernel_rfl) (fun ds => match ds with | [.node [.ints l, .v (.bool no)]] => [⟨Nat, [0, 2, 3], [(4, 23, .ints .u8 [])], fun B k => [(4, .ptr B 0), (5, .v (.int .i64 (k : Nat)))], fun B k => [(B, .arr 23 32 (AV (hk8 l no k)))], fun k => k ≤ (bif hshB l no then [] else l.take 32).length, fun k => 32 - k, 0⟩] | _ => []) Tryd.func44 (by kernel_rfl) (by kernel_rfl) rfl Tryd.ntmps44 (by decide) ?_ ?_
 ·intro ds p bs F h
  unfold g_hash8 at h
  split at h
  ·rename_i l no
   simp only [Option.some.injEq, Prod.mk.injEq] at h
   obtain ⟨_, _, rfl⟩ := h
   kernel_rfl
  ·cases h
 ·intro ds bs F hl h
  unfold g_hash8 at h
  split at h
  ·rename_i l no
   simp only [Option.some.injEq, Prod.mk.injEq, Bool.and_eq_true] at h
   obtain ⟨h0, _, rfl⟩ := h
   exact wpc_hash8 O R l no (fo_oo O hO) hR (by first | exact h0 | (simp only [Bool.and_eq_true]; exact h0))
  ·cases h
def g_puth8 (O : OO) (R : OB) (ds : List Dt) : Option (Bool × List Bool × (List Bool → Post)) := match ds with
 | [.ints b, .v (.agg a)] => some ((Nat.ble b.length 1000000) && (O.isH a), [], fun _ => ⟨[.row 1], [(1, .own 5 (.ints .u8 (b ++ tabI (fnA a) 32)))]⟩)
 | _ => none
set_option maxHeartbeats 4000000 in
theorem vc_puth8 (O : OO) (R : OB) (b : List Int) (m : Nat → Int) (F : FO O) (hr : R = bO) (h0 : (Nat.ble b.length 1000000) = true) (h1 : (O.isH (AV m)) = true) :
 If ((nMul (nAdd 0 b.length) 1).ble 140737488355328 && (nAdd 0 b.length).ble 9223372036854775807) ((∃ (x : Nat), x ≤ 32 ∧ (Value.int .i64 0 = Value.int .i64 (iOf x) ∧ True) ∧ EqI
  (app [] b) (app b (tabI (fnA (AV m)) x)) ∧ AV m = AV m ∧ True) ∧ ∀ (x : Nat), x ≤ 32 → If (iLt (iOf x) 32) (If (iLe 0 (iOf x) && (iOf x).toNat.blt 32) (If ((nAdd 0 (nMul (iOf
  x).toNat 1)).blt 32) (If ((nMul (nAdd (app b (tabI (fnA (AV m)) x)).length 1) 1).ble 140737488355328 && (nAdd (app b (tabI (fnA (AV m)) x)).length 1).ble 9223372036854775807) (∃ (x'
  : Nat), x' ≤ 32 ∧ (nSub 32 x').succ ≤ nSub 32 x ∧ (Value.int .i64 (IntKind.i64.wrap (iAdd (iOf x) 1)) = Value.int .i64 (iOf x') ∧ True) ∧ EqI (app (app b (tabI (fnA (AV m)) x))
  [(tabI (m) 32).getD (nAdd 0 (nMul (iOf x).toNat 1)) 0]) (app b (tabI (fnA (AV m)) x')) ∧ AV m = AV m ∧ True) False) False) False) (True ∧ EqI (app b (tabI (fnA (AV m)) x)) (app b
  (tabI (fnA (AV m)) 32)) ∧ True)) False := by
 have h0' := Nat.le_of_ble_eq_true h0
 have ft : tabI (fnA (AV m)) 32 = tabI m 32 := by kernel_rfl
 obtain ⟨f, hf⟩ : ∃ f, fnA (AV m) = f := ⟨_, rfl⟩
 rw [hf] at ft ⊢
 refine Sx.if_true (by simp only [Bool.and_eq_true, Bool.or_eq_true, Sx.iLt_t, Sx.iLt_f, Sx.iLe_t, Sx.iLe_f, Sx.iEq_t, Sx.iEq_f, Sx.iBeq_t, Sx.iBeq_f, Sx.iBne_t, Sx.iBne_f, Nat.ble_eq, Nat.beq_eq, Sx.Cont.n, Sx.app, Sx.nAdd, Sx.nSub, Sx.nMul, Sx.nPow, Sx.nDiv, Sx.nMod, Sx.iAdd, Sx.iSub, Sx.iMul, Sx.iNeg, Sx.iPow, Sx.iOf]; omega) ⟨⟨0, Nat.zero_le _, ⟨rfl, trivial⟩, (List.append_nil b).symm, rfl, trivial⟩, fun x hx => ?_⟩
 have hn : (iOf x).toNat = x := by simp only [Sx.app, Sx.nAdd, Sx.nSub, Sx.nMul, Sx.nPow, Sx.nDiv, Sx.nMod, Sx.iAdd, Sx.iSub, Sx.iMul, Sx.iNeg, Sx.iPow, Sx.iOf, Int.toNat_natCast]
 have hx1 : nAdd 0 (nMul x 1) = x := by simp only [Sx.app, Sx.nAdd, Sx.nSub, Sx.nMul, Sx.nPow, Sx.nDiv, Sx.nMod, Sx.iAdd, Sx.iSub, Sx.iMul, Sx.iNeg, Sx.iPow, Sx.iOf]; omega
 rw [hn, hx1]
 refine Sx.if_both (fun d => ?_) (fun d => ?_)
 ·simp only [Bool.and_eq_true, Bool.or_eq_true, Sx.iLt_t, Sx.iLt_f, Sx.iLe_t, Sx.iLe_f, Sx.iEq_t, Sx.iEq_f, Sx.iBeq_t, Sx.iBeq_f, Sx.iBne_t, Sx.iBne_f, Nat.ble_eq, Nat.beq_eq, Sx.Cont.n, Sx.app, Sx.nAdd, Sx.nSub, Sx.nMul, Sx.nPow, Sx.nDiv, Sx.nMod, Sx.iAdd, Sx.iSub, Sx.iMul, Sx.iNeg, Sx.iPow, Sx.iOf] at d
  have hx' : x < 32 := by omega
  have hb : x.blt 32 = true := by rw [Nat.blt_eq]; exact hx'
  have w1 : IntKind.i64.wrap (iAdd (iOf x) 1) = iOf (x + 1) := by simp only [Sx.app, Sx.nAdd, Sx.nSub, Sx.nMul, Sx.nPow, Sx.nDiv, Sx.nMod, Sx.iAdd, Sx.iSub, Sx.iMul, Sx.iNeg, Sx.iPow, Sx.iOf]; rw [IntKind.wrap_i64]; omega
  have e : (tabI m 32).getD x 0 = f x := by rw [← ft, List.getD_eq_getElem?_getD, tab_get9 _ hx', Option.getD_some]
  rw [hb, w1, e]
  refine Sx.if_true (by simp only [Bool.and_eq_true, Bool.or_eq_true, Sx.iLt_t, Sx.iLt_f, Sx.iLe_t, Sx.iLe_f, Sx.iEq_t, Sx.iEq_f, Sx.iBeq_t, Sx.iBeq_f, Sx.iBne_t, Sx.iBne_f, Nat.ble_eq, Nat.beq_eq, Sx.Cont.n, Sx.app, Sx.nAdd, Sx.nSub, Sx.nMul, Sx.nPow, Sx.nDiv, Sx.nMod, Sx.iAdd, Sx.iSub, Sx.iMul, Sx.iNeg, Sx.iPow, Sx.iOf]; exact ⟨by omega, trivial⟩) (Sx.if_true rfl (Sx.if_true (by simp only [Bool.and_eq_true, Bool.or_eq_true, Sx.iLt_t, Sx.iLt_f, Sx.iLe_t, Sx.iLe_f, Sx.iEq_t, Sx.iEq_f, Sx.iBeq_t, Sx.iBeq_f, Sx.iBne_t, Sx.iBne_f, Nat.ble_eq, Nat.beq_eq, Sx.Cont.n, Sx.app, Sx.nAdd, Sx.nSub, Sx.nMul, Sx.nPow, Sx.nDiv, Sx.nMod, Sx.iAdd, Sx.iSub, Sx.iMul, Sx.iNeg, Sx.iPow, Sx.iOf, List.length_append, tab_len9]; omega) ⟨x + 1, hx', by simp only [Sx.app, Sx.nAdd, Sx.nSub, Sx.nMul, Sx.nPow, Sx.nDiv, Sx.nMod, Sx.iAdd, Sx.iSub, Sx.iMul, Sx.iNeg, Sx.iPow, Sx.iOf]; omega, ⟨rfl, trivial⟩, ?_, rfl, trivial⟩))
  show (b ++ tabI f x) ++ [f x] = b ++ (tabI f x ++ [f x])
  rw [List.append_assoc]
 ·simp only [Bool.and_eq_true, Bool.or_eq_true, Sx.iLt_t, Sx.iLt_f, Sx.iLe_t, Sx.iLe_f, Sx.iEq_t, Sx.iEq_f, Sx.iBeq_t, Sx.iBeq_f, Sx.iBne_t, Sx.iBne_f, Nat.ble_eq, Nat.beq_eq, Sx.Cont.n, Sx.app, Sx.nAdd, Sx.nSub, Sx.nMul, Sx.nPow, Sx.nDiv, Sx.nMod, Sx.iAdd, Sx.iSub, Sx.iMul, Sx.iNeg, Sx.iPow, Sx.iOf] at d
  obtain rfl : x = 32 := by omega
  exact ⟨trivial, rfl, trivial⟩
theorem wpc_puth8 (O : OO) (R : OB) (b : List Int) (m : Nat → Int) (F : FO O) (hr : R = bO) (h0 : (Nat.ble b.length 1000000) = true) (h1 : (O.isH (AV m)) = true) : wpcI Tryd.prog (spT4 O R) Tryd.f49.ntmps [⟨Nat, [3], [(5, 5, .ints .u8 [])], fun B k => [(5, .row B), (6, .v (.int .i64 (k : Nat)))], fun B k => [(B, .own 5 (.ints .u8 (b ++ tabI (fnA (AV m)) k)))], fun k => k ≤ 32, fun k => 32 - k, 0⟩] (bodyOf Tryd.f49) 0 64 (envP (mks [.ro .u8, .v] [.ints b, .v (.agg (AV m))] 0).1 0) (mks [.ro .u8, .v] [.ints b, .v (.agg (AV m))] 0).2 (retP Tryd.prog Tryd.f49.results.toList 1 (⟨[.row 1], [(1, .own 5 (.ints .u8 (b ++ tabI (fnA (AV m)) 32)))]⟩ : Post)) :=
 Eq.mpr (by kernel_rfl) (vc_puth8 O R b m F hr h0 h1)
theorem ok_puth8 (I : Sx.Interp) (O : OO) (hO : O = oo) (R : OB) (hR : R = bO) : Sx.SpecOK I Tryd.prog 49 (pspec [.ro .u8, .v] false (g_puth8 O R)) := by
 refine spec_pI (spT4_ok I O hO R hR) (by kernel_rfl) (fun ds => match ds with | [.ints b, .v (.agg a)] => [⟨Nat, [3], [(5, 5, .ints .u8 [])], fun B k => [(5, .row B), (6, .v (.int .i64 (k : Nat)))], fun B k => [(B, .own 5 (.ints .u8 (b ++ tabI (fnA a) k)))], fun k => k ≤ 32, fun k => 32 - k, 0⟩] | _ => []) Tryd.func49 (by kernel_rfl) (by kernel_rfl) rfl Tryd.ntmps49 (by decide) ?_ ?_
 ·intro ds p bs F h
  unfold g_puth8 at h
  split at h
  ·rename_i b a
   simp only [Option.some.injEq, Prod.mk.injEq] at h
   obtain ⟨_, _, rfl⟩ := h
   kernel_rfl
  ·cases h
 ·intro ds bs F hl h
  unfold g_puth8 at h
  split at h
  ·rename_i b a
   simp only [Option.some.injEq, Prod.mk.injEq, Bool.and_eq_true] at h
   obtain ⟨⟨h0, h1⟩, _, rfl⟩ := h
   obtain ⟨m, rfl⟩ := isH_AV (by subst hO; exact h1 : isHa a = true)
   exact wpc_puth8 O R b m (fo_oo O hO) hR (by first | exact h0 | (simp only [Bool.and_eq_true]; exact h0)) (by first | exact h1 | (simp only [Bool.and_eq_true]; exact h1))
  ·cases h
def spT5 (O : OO) (R : OB) (f : FuncId) : Option Sx.Spec := match f with
 | 44 => some (pspec [.obj 86 [.ro .u8, .v]] true (g_hash8 O R))
 | 49 => some (pspec [.ro .u8, .v] false (g_puth8 O R))
 | f => spT4 O R f
theorem spT5_ok (I : Sx.Interp) (O : OO) (hO : O = oo) (R : OB) (hR : R = bO) : ∀ f s, spT5 O R f = some s → Sx.SpecOK I Tryd.prog f s := by
 intro f s h
 unfold spT5 at h
 split at h
 · cases h; exact ok_hash8 I O hO R hR
 · cases h; exact ok_puth8 I O hO R hR
 ·exact spT4_ok I O hO R hR _ s h
end Go.Proofs.YtebffdgghkomjaaDoor
