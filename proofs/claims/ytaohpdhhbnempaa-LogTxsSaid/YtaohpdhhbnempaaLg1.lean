/- Log: disks, rows of bytes, bytes' equality, by the symbolic machine (printed by genLg1.py; VCs by VcTool). -/
import Derived.Test.YtaohpdhhbnempaaRn
namespace Go.Proofs.Ytaohpdhhbnempaa
open Go.RowKit Go.Lib Ckp Cfd Cpd Sx
open IntKind (i64 u64 u8 i32 u32)
set_option linter.unusedVariables false
set_option linter.unusedSimpArgs false
set_option maxRecDepth 1000000
set_option maxHeartbeats 4000000
def strE (a b : List Int) : Bool := (Go.strOfNums a).toList == (Go.strOfNums b).toList
def prfE (a b : List Int) : Bool := bif iLe (b.length : Int) (a.length : Int) then strE (a.take b.length) b else false
def lgRow (O : OO) (R : OB) (b : List Int) : List Int := R.row (b.length : Int) ++ tabI (O.sum b) 8 ++ b
def wrN (l b : List Int) (de : Bool) : Bool := bif de then true else iLt (4194304 - (l.length : Int)) (b.length : Int)
def wrK (bu : Int) (n : Nat) : Nat := bif iLt bu 0 then n else min n bu.toNat
def wrL (l b : List Int) (bu : Int) (de : Bool) : List Int := bif wrN l b de then l else l ++ b.take (wrK bu b.length)
def wrB (l b : List Int) (bu : Int) (de : Bool) : Int := bif wrN l b de then bu else bif iLt bu 0 then bu else bu - (wrK bu b.length : Nat)
def wrD (l b : List Int) (bu : Int) (de : Bool) : Bool := bif wrN l b de then de else Nat.blt (wrK bu b.length) b.length
def wrO (l b : List Int) (bu : Int) (de : Bool) : Bool := bif wrN l b de then false else !(Nat.blt (wrK bu b.length) b.length)
def cutN (l : List Int) (n : Int) (de : Bool) : Bool := bif (bif de then true else iLt n 0) then true else iLt (l.length : Int) n
def g_bequal (O : OO) (R : OB) (ds : List Dt) : zG := match ds with
 | [.ints a, .ints b] => some (true, [], fun _ => ⟨[.v (.bool (strE a b))], []⟩)
 | _ => none
theorem vc_bequal (O : OO) (R : OB) (a b : List Int) (F : FO O) (hr : R = bO) :
 yB ((strOfNums a).toList == (strOfNums b).toList) = yB (strE a b) ∧ True ∧ True := by
 exact ⟨(by first | rfl | trivial), trivial, trivial⟩
theorem ok_bequal (I : Sx.Interp) (O : OO) (hO : O = oo) (R : OB) (hR : R = bO) : Sx.SpecOK I Try.prog 68 (pspec [.ro .u8, .ro .u8] false (g_bequal O R)) := by
 refine spec_pI (spQ6_ok I O hO R hR) (by kernel_rfl) (fun _ => []) Try.func68 (by kernel_rfl) (by kernel_rfl) rfl Try.ntmps68 (by decide) ?_ ?_
 ·intro ds p bs F h
  unfold g_bequal at h
  split at h
  ·rename_i a b
   simp only [zsI, zpI] at h
   obtain ⟨_, _, rfl⟩ := h
   kernel_rfl
  ·cases h
 ·intro ds bs F hl h
  unfold g_bequal at h
  split at h
  ·rename_i a b
   simp only [zsI, zpI, zaT] at h
   obtain ⟨_, _, rfl⟩ := h
   exact Eq.mpr (by kernel_rfl) (vc_bequal O R a b (fo_oo O hO) hR )
  ·cases h
def g_bclone (O : OO) (R : OB) (ds : List Dt) : zG := match ds with
 | [.ints a] => some ((Nat.ble a.length 8388608), [], fun _ => ⟨[.row 1], [(1, .own 5 (.ints .u8 a))]⟩)
 | _ => none
theorem vc_bclone (O : OO) (R : OB) (a : List Int) (F : FO O) (hr : R = bO) (h0 : (Nat.ble a.length 8388608) = true) :
 If (a.length.beq 0) (True ∧ EqI [] a ∧ True) True ∧ If ((nMul (nAdd 0 a.length) 1).ble 140737488355328 && (nAdd 0 a.length).ble 9223372036854775807) (True ∧ EqI (app [] a) a ∧ True) False := by
 have h0' := zbL h0
 refine ⟨?_, ziT (by simp only [zUn, Bz, Sx.Cont.n]; omega) ⟨trivial, rfl, trivial⟩⟩
 refine Sx.if_both (fun h => ⟨trivial, ?_, trivial⟩) (fun _ => trivial)
 simp only [Bz, Sx.Cont.n] at h
 exact (List.length_eq_zero_iff.1 h).symm
theorem ok_bclone (I : Sx.Interp) (O : OO) (hO : O = oo) (R : OB) (hR : R = bO) : Sx.SpecOK I Try.prog 37 (pspec [.ro .u8] false (g_bclone O R)) := by
 refine spec_pAI (spQ6_ok I O hO R hR) (by kernel_rfl) (fun _ => []) (fun ds => match ds with | [.ints a] => [(2, 5, .ints .u8 [])] | _ => []) Try.func37 (by kernel_rfl) (by kernel_rfl) rfl Try.ntmps37 (by decide) ?_ ?_
 ·intro ds p bs F h
  unfold g_bclone at h
  split at h
  ·rename_i a
   simp only [zsI, zpI] at h
   obtain ⟨_, _, rfl⟩ := h
   kernel_rfl
  ·cases h
 ·intro ds bs F hl h
  unfold g_bclone at h
  split at h
  ·rename_i a
   simp only [zsI, zpI, zaT] at h
   obtain ⟨h0, _, rfl⟩ := h
   exact Eq.mpr (by kernel_rfl) (vc_bclone O R a (fo_oo O hO) hR (by first | exact h0 | (simp only [zaT]; exact h0)))
  ·cases h
def spL0 (O : OO) (R : OB) (f : FuncId) : Option Sx.Spec := match f with
 | 41 => some (gspec [.ro .u8] (g_sumO O))
 | 68 => some (pspec [.ro .u8, .ro .u8] false (g_bequal O R))
 | 37 => some (pspec [.ro .u8] false (g_bclone O R))
 | f => spQ6 O R f
theorem spL0_ok (I : Sx.Interp) (O : OO) (hO : O = oo) (R : OB) (hR : R = bO) : ∀ f s, spL0 O R f = some s → Sx.SpecOK I Try.prog f s := by
 intro f s h
 unfold spL0 at h
 split at h
 · cases h; exact ok_hSum I O hO
 · cases h; exact ok_bequal I O hO R hR
 · cases h; exact ok_bclone I O hO R hR
 ·exact spQ6_ok I O hO R hR _ s h
def g_hasp (O : OO) (R : OB) (ds : List Dt) : zG := match ds with
 | [.ints a, .ints b] => some (true, [], fun _ => ⟨[.v (.bool (prfE a b))], []⟩)
 | _ => none
theorem vc_hasp (O : OO) (R : OB) (a b : List Int) (F : FO O) (hr : R = bO) :
 If (iLe (iOf (Cont.ints .u8 b).n) (iOf (Cont.ints .u8 a).n)) (If (iLe 0 0 && iLe 0 (iOf (Cont.ints .u8 b).n) && iLe (iOf (Cont.ints .u8 b).n) (iOf (Cont.ints .u8 a).n)) (yB (strE (List.take (nSub (iOf b.length).toNat 0) (List.drop 0 a)) b) = yB (prfE a b) ∧ True ∧ True) False) (yB false = yB (prfE a b) ∧ True ∧ True) := by
 have e : List.take (nSub (iOf b.length).toNat 0) (List.drop 0 a) = a.take b.length := by simp only [zUn, ztN, Nat.sub_zero, List.drop_zero]
 refine Sx.if_both (fun h => ziT ?_ ⟨?_, trivial, trivial⟩) (fun h => ⟨?_, trivial, trivial⟩)
 ·simp only [Bz, Sx.Cont.n, zUn] at h ⊢; omega
 ·rw [e]
  unfold prfE
  rw [show iLe (b.length : Int) (a.length : Int) = true by simp only [Bz, Sx.Cont.n, zUn] at h ⊢; omega]; rfl
 ·unfold prfE
  rw [show iLe (b.length : Int) (a.length : Int) = false by simp only [Bz, Sx.Cont.n, zUn] at h ⊢; omega]; rfl
theorem ok_hasp (I : Sx.Interp) (O : OO) (hO : O = oo) (R : OB) (hR : R = bO) : Sx.SpecOK I Try.prog 36 (pspec [.ro .u8, .ro .u8] false (g_hasp O R)) := by
 refine spec_pI (spL0_ok I O hO R hR) (by kernel_rfl) (fun _ => []) Try.func36 (by kernel_rfl) (by kernel_rfl) rfl Try.ntmps36 (by decide) ?_ ?_
 ·intro ds p bs F h
  unfold g_hasp at h
  split at h
  ·rename_i a b
   simp only [zsI, zpI] at h
   obtain ⟨_, _, rfl⟩ := h
   kernel_rfl
  ·cases h
 ·intro ds bs F hl h
  unfold g_hasp at h
  split at h
  ·rename_i a b
   simp only [zsI, zpI, zaT] at h
   obtain ⟨_, _, rfl⟩ := h
   exact Eq.mpr (by kernel_rfl) (vc_hasp O R a b (fo_oo O hO) hR )
  ·cases h
def g_dread (O : OO) (R : OB) (ds : List Dt) : zG := match ds with
 | [.node [.ints l, .v (.int .i64 bu), .v (.bool de)]] => some ((Nat.ble l.length 8388608), [], fun _ => ⟨[.row 2], [(2, .own 5 (.ints .u8 (bif de then [] else l)))]⟩)
 | _ => none
theorem vc_dread (O : OO) (R : OB) (l : List Int) (bu : Int) (de : Bool) (F : FO O) (hr : R = bO) (h0 : (Nat.ble l.length 8388608) = true) :
 If de (True ∧ EqI [] (bif de then [] else l) ∧ True) (If ((nMul (nAdd 0 l.length) 1).ble 140737488355328 && (nAdd 0 l.length).ble 9223372036854775807) (True ∧ EqI (app [] l) (bif de then [] else l) ∧ True) False) := by
 have h0' := zbL h0
 cases de
 ·exact Sx.if_false rfl (ziT (by simp only [zUn, Bz, Sx.Cont.n]; omega) ⟨trivial, rfl, trivial⟩)
 ·exact ziT rfl ⟨trivial, rfl, trivial⟩
theorem ok_dread (I : Sx.Interp) (O : OO) (hO : O = oo) (R : OB) (hR : R = bO) : Sx.SpecOK I Try.prog 30 (pspec [.robj 28 [.ro .u8, .v, .v]] false (g_dread O R)) := by
 refine spec_pAI (spL0_ok I O hO R hR) (by kernel_rfl) (fun _ => []) (fun ds => match ds with | [.node [.ints l, .v (.int .i64 bu), .v (.bool de)]] => [(2, 5, .ints .u8 [])] | _ => []) Try.func30 (by kernel_rfl) (by kernel_rfl) rfl Try.ntmps30 (by decide) ?_ ?_
 ·intro ds p bs F h
  unfold g_dread at h
  split at h
  ·rename_i l bu de
   simp only [zsI, zpI] at h
   obtain ⟨_, _, rfl⟩ := h
   kernel_rfl
  ·cases h
 ·intro ds bs F hl h
  unfold g_dread at h
  split at h
  ·rename_i l bu de
   simp only [zsI, zpI, zaT] at h
   obtain ⟨h0, _, rfl⟩ := h
   exact Eq.mpr (by kernel_rfl) (vc_dread O R l bu de (fo_oo O hO) hR (by first | exact h0 | (simp only [zaT]; exact h0)))
  ·cases h
def g_dwrite (O : OO) (R : OB) (ds : List Dt) : zG := match ds with
 | [.node [.ints l, .v (.int .i64 bu), .v (.bool de)], .ints b] => some ((Nat.ble l.length 8388608) && (Nat.ble b.length 8388608) && (iLe (-9223372036854775808) bu && iLe bu 9223372036854775807), [], fun _ => ⟨[.v (.bool (wrO l b bu de))], [(0, .blk 28 [.row 3, .v (.int .i64 (wrB l b bu de)), .v (.bool (wrD l b bu de))]), (3, .own 5 (.ints .u8 (wrL l b bu de)))]⟩)
 | _ => none
theorem vc_dwrite (O : OO) (R : OB) (l : List Int) (bu : Int) (de : Bool) (b : List Int) (F : FO O) (hr : R = bO) (h0 : (Nat.ble l.length 8388608) = true) (h1 : (Nat.ble b.length 8388608) = true) (h2 : (iLe (-9223372036854775808) bu && iLe bu 9223372036854775807) = true) :
 let T1 := yB false = yB (wrO l b bu de) ∧ True ∧ (yI bu = yI (wrB l b bu de) ∧ yB de = yB (wrD l b bu de)) ∧ EqI l (wrL l b bu de) ∧ True; If de T1 (If (iLt (i64.wrap (iSub
  4194304 (iOf (Cont.ints .u8 l).n))) (iOf (Cont.ints .u8 b).n)) T1 ((∃ (x : Int), (iLe 0 x && iLe x (iOf (wrK bu b.length))) = true ∧ (yI 0 = yI x ∧ yB false = yB false ∧ True) ∧ (yI
  bu = yI (bif iLt bu 0 then bu else iSub bu x) ∧ yB de = yB false) ∧ EqI l (app l (List.take x.toNat b)) ∧ EqI b b ∧ True) ∧ ∀ (x : Int), let T2 := bif iLt bu 0 then bu else iSub bu x;
  let T3 := app (app l (List.take x.toNat b)) [b.getD x.toNat 0]; let T4 := nAdd (app l (List.take x.toNat b)).length 1; (iLe 0 x && iLe x (iOf (wrK bu b.length))) = true → If (iLt x
  (iOf (Cont.ints .u8 b).n)) (If (iBeq T2 0) (yB false = yB (wrO l b bu de) ∧ True ∧ (yI T2 = yI (wrB l b bu de) ∧ yB true = yB (wrD l b bu de)) ∧ EqI (app l (List.take x.toNat b))
  (wrL l b bu de) ∧ True) (If (iLe 0 x && x.toNat.blt b.length) (If (true && Nat.beq 1 1 && x.toNat.blt b.length) (If ((nMul T4 1).ble 140737488355328 && T4.ble 9223372036854775807)
  (If (iLt 0 T2) (∃ (x' : Int), (iLe 0 x' && iLe x' (iOf (wrK bu b.length))) = true ∧ (iSub (iOf b.length) x').toNat.succ ≤ (iSub (iOf b.length) x).toNat ∧ (yI (i64.wrap (iAdd
  x 1)) = yI x' ∧ yB false = yB false ∧ True) ∧ (yI (i64.wrap (iSub T2 1)) = yI (bif iLt bu 0 then bu else iSub bu x') ∧ yB false = yB false) ∧ EqI T3 (app l (List.take
  x'.toNat b)) ∧ EqI b b ∧ True) (∃ (x' : Int), (iLe 0 x' && iLe x' (iOf (wrK bu b.length))) = true ∧ (iSub (iOf b.length) x').toNat.succ ≤ (iSub (iOf b.length) x).toNat ∧ (yI
  (i64.wrap (iAdd x 1)) = yI x' ∧ yB false = yB false ∧ True) ∧ (yI T2 = yI (bif iLt bu 0 then bu else iSub bu x') ∧ yB false = yB false) ∧ EqI T3 (app l (List.take x'.toNat
  b)) ∧ EqI b b ∧ True)) False) False) False)) (yB true = yB (wrO l b bu de) ∧ True ∧ (yI T2 = yI (wrB l b bu de) ∧ yB false = yB (wrD l b bu de)) ∧ EqI (app l (List.take x.toNat b))
  (wrL l b bu de) ∧ True))) := by
 conv => zeta
 have h0' := zbL h0
 have h1' := zbL h1
 simp only [Bz, Sx.Cont.n] at h2
 have w0 : i64.wrap (iSub 4194304 (iOf (Cont.ints u8 l).n)) = 4194304 - (l.length : Int) := by simp only [zUn, Sx.Cont.n]; rw [IntKind.wrap_i64]; omega
 rw [w0]
 refine Sx.if_both (fun hd => ?_) (fun hd => ?_)
 ·subst hd; exact ⟨rfl, trivial, ⟨rfl, rfl⟩, rfl, trivial⟩
 subst hd
 refine Sx.if_both (fun hn => ?_) (fun hn => ?_)
 ·have c : wrN l b false = true := hn
  unfold wrO wrB wrD wrL
  rw [c]; exact ⟨rfl, trivial, ⟨rfl, rfl⟩, rfl, trivial⟩
 have c : wrN l b false = false := hn
 have hO : wrO l b bu false = !(Nat.blt (wrK bu b.length) b.length) := by unfold wrO; rw [c]; rfl
 have hB : wrB l b bu false = bif iLt bu 0 then bu else bu - (wrK bu b.length : Nat) := by unfold wrB; rw [c]; rfl
 have hD : wrD l b bu false = Nat.blt (wrK bu b.length) b.length := by unfold wrD; rw [c]; rfl
 have hL : wrL l b bu false = l ++ b.take (wrK bu b.length) := by unfold wrL; rw [c]; rfl
 rw [hO, hB, hD, hL]
 have hK : wrK bu b.length ≤ b.length ∧ (bu < 0 → wrK bu b.length = b.length) ∧ (0 ≤ bu → wrK bu b.length = min b.length bu.toNat) := by
  unfold wrK
  cases q : iLt bu 0
  ·simp only [Bz, Sx.Cont.n] at q
   rw [cond_false]; exact ⟨Nat.min_le_left _ _, fun h => absurd h q, fun _ => rfl⟩
  ·simp only [Bz, Sx.Cont.n] at q
   rw [cond_true]; exact ⟨Nat.le_refl _, fun _ => rfl, fun h => by omega⟩
 generalize wrK bu b.length = K at *
 obtain ⟨hK1, hK2, hK3⟩ := hK
 have pB : ∀ x : Int, (bu < 0 ∧ (bif iLt bu 0 then bu else iSub bu x) = bu) ∨ (0 ≤ bu ∧ (bif iLt bu 0 then bu else iSub bu x) = bu - x) := fun x => by
  cases q : iLt bu 0
  ·simp only [Bz, Sx.Cont.n] at q; exact .inr ⟨by omega, rfl⟩
  ·simp only [Bz, Sx.Cont.n] at q; exact .inl ⟨q, rfl⟩
 have pK : (bif iLt bu 0 then bu else bu - (K : Int)) = (bif iLt bu 0 then bu else iSub bu (K : Int)) := rfl
 rw [pK]
 refine ⟨⟨0, by simp only [Bz, Sx.Cont.n, zUn]; omega, ⟨rfl, rfl, trivial⟩, ⟨?_, rfl⟩, ?_, rfl, trivial⟩, fun x hx => ?_⟩
 ·rcases pB 0 with ⟨_, e⟩ | ⟨_, e⟩ <;> rw [e] <;> simp
 ·show l = l ++ b.take 0
  simp
 simp only [Bz, Sx.Cont.n, zUn] at hx
 refine Sx.if_both (fun d => ?_) (fun d => ?_)
 ·simp only [Bz, Sx.Cont.n, zUn] at d
  refine Sx.if_both (fun z => ?_) (fun z => ?_)
  ·simp only [iBeq_t] at z
   have e : x = (K : Int) := by
    rcases pB x with ⟨h, e⟩ | ⟨h, e⟩
    ·rw [e] at z; omega
    ·rw [e] at z; have := hK3 h; omega
   have e2 : x.toNat = K := by omega
   have e3 : Nat.blt K b.length = true := by rw [Nat.blt_eq]; omega
   rw [e3, e2, e]
   exact ⟨rfl, trivial, ⟨rfl, rfl⟩, rfl, trivial⟩
  ·simp only [iBeq_f] at z
   have hxK : x < (K : Int) := by
    rcases pB x with ⟨h, e⟩ | ⟨h, e⟩
    ·have := hK2 h; omega
    ·rw [e] at z; have := hK3 h; omega
   have w1 : i64.wrap (iAdd x 1) = x + 1 := by simp only [zUn]; rw [IntKind.wrap_i64]; omega
   have hb : x.toNat.blt b.length = true := by rw [Nat.blt_eq]; omega
   have ht : app (app l (List.take x.toNat b)) [b.getD x.toNat 0] = app l (List.take (x + 1).toNat b) := by
    have e1 : (x + 1).toNat = x.toNat + 1 := by omega
    have e2 : b[x.toNat]? = some (b.getD x.toNat 0) := by rw [List.getD_eq_getElem?_getD, List.getElem?_eq_getElem (by omega)]; rfl
    simp only [zUn]
    rw [e1, List.take_add_one, e2, List.append_assoc]; rfl
   rw [w1, hb]
   have l1 : (app l (List.take x.toNat b)).length ≤ l.length + b.length := by simp only [zUn, zlA, List.length_take]; omega
   refine ziT (by simp only [Bz, Sx.Cont.n, Bool.and_true]; omega) (ziT rfl (ziT (by simp only [Bz, Sx.Cont.n, zUn] at l1 ⊢; omega) (Sx.if_both (fun p => ?_) (fun p => ?_))))
   ·refine ⟨x + 1, by simp only [Bz, Sx.Cont.n, zUn]; omega, by simp only [zUn]; omega, ⟨rfl, rfl, trivial⟩, ⟨?_, rfl⟩, ht, rfl, trivial⟩
    simp only [iLt_t] at p
    rcases pB x with ⟨h, e⟩ | ⟨h, e⟩
    ·rw [e] at p; omega
    ·rcases pB (x + 1) with ⟨h', e'⟩ | ⟨h', e'⟩
     ·omega
     ·rw [e, e', show i64.wrap (iSub (bu - x) 1) = bu - (x + 1) by simp only [zUn]; rw [IntKind.wrap_i64]; omega]
   ·refine ⟨x + 1, by simp only [Bz, Sx.Cont.n, zUn]; omega, by simp only [zUn]; omega, ⟨rfl, rfl, trivial⟩, ⟨?_, rfl⟩, ht, rfl, trivial⟩
    simp only [iLt_f] at p
    rcases pB x with ⟨h, e⟩ | ⟨h, e⟩
    ·rcases pB (x + 1) with ⟨h', e'⟩ | ⟨h', e'⟩
     ·rw [e, e']
     ·omega
    ·rw [e] at p z; have := hK3 h; omega
 ·simp only [Bz, Sx.Cont.n, zUn] at d
  have e : x = (K : Int) := by omega
  have e2 : x.toNat = K := by omega
  have e3 : Nat.blt K b.length = false := by rw [Bool.eq_false_iff, Ne, Nat.blt_eq]; omega
  rw [e3, e2, e]
  exact ⟨rfl, trivial, ⟨rfl, rfl⟩, rfl, trivial⟩
theorem ok_dwrite (I : Sx.Interp) (O : OO) (hO : O = oo) (R : OB) (hR : R = bO) : Sx.SpecOK I Try.prog 40 (pspec [.obj 28 [.own 5 .u8, .v, .v], .ro .u8] false (g_dwrite O R)) := by
 refine spec_pI (spL0_ok I O hO R hR) (by kernel_rfl) (fun ds => match ds with | [.node [.ints l, .v (.int .i64 bu), .v (.bool de)], .ints b] => [⟨Int, [0, 1, 4], [(100000, 5, .ints .u8 [])], fun B j => [(5, .v (.int .i64 j))], fun B j => [(0, .blk 28 [.row B, .v (.int .i64 (bif iLt bu 0 then bu else bu - j)), .v (.bool false)]), (B, .own 5 (.ints .u8 (l ++ b.take j.toNat)))], fun j => (iLe 0 j && iLe j ((wrK bu b.length : Nat) : Int)) = true, fun j => ((b.length : Int) - j).toNat, 0⟩] | _ => []) Try.func40 (by kernel_rfl) (by kernel_rfl) rfl Try.ntmps40 (by decide) ?_ ?_
 ·intro ds p bs F h
  unfold g_dwrite at h
  split at h
  ·rename_i l bu de b
   simp only [zsI, zpI] at h
   obtain ⟨_, _, rfl⟩ := h
   kernel_rfl
  ·cases h
 ·intro ds bs F hl h
  unfold g_dwrite at h
  split at h
  ·rename_i l bu de b
   simp only [zsI, zpI, zaT] at h
   obtain ⟨⟨⟨h0, h1⟩, h2⟩, _, rfl⟩ := h
   exact Eq.mpr (by kernel_rfl) (vc_dwrite O R l bu de b (fo_oo O hO) hR (by first | exact h0 | (simp only [zaT]; exact h0)) (by first | exact h1 | (simp only [zaT]; exact h1)) (by first | exact h2 | (simp only [zaT]; exact h2)))
  ·cases h
def g_dcut (O : OO) (R : OB) (ds : List Dt) : zG := match ds with
 | [.node [.ints l, .v (.int .i64 bu), .v (.bool de)], .v (.int .i64 n)] => some ((Nat.ble l.length 8388608), [], fun _ => ⟨[.v (.bool (!(cutN l n de)))], [(0, .blk 28 [.row 2, .v (.int .i64 bu), .v (.bool de)]), (2, .own 5 (.ints .u8 (bif cutN l n de then l else l.take n.toNat)))]⟩)
 | _ => none
theorem vc_dcut (O : OO) (R : OB) (l : List Int) (bu : Int) (de : Bool) (n : Int) (F : FO O) (hr : R = bO) (h0 : (Nat.ble l.length 8388608) = true) :
 let T1 := yB false = yB !cutN l n de ∧ True ∧ (yI bu = yI bu ∧ yB de = yB de) ∧ EqI l (bif cutN l n de then l else List.take n.toNat l) ∧ True; If de T1 (If (iLt n 0) T1 (If (iLt
  (iOf (Cont.ints .u8 l).n) n) T1 (If (iLe 0 n && iLe n (iOf (Cont.ints .u8 l).n)) (yB true = yB !cutN l n de ∧ True ∧ (yI bu = yI bu ∧ yB de = yB de) ∧ EqI (List.take (nSub n.toNat
  0) (List.drop 0 l)) (bif cutN l n de then l else List.take n.toNat l) ∧ True) False))) := by
 conv => zeta
 have e : List.take (nSub n.toNat 0) (List.drop 0 l) = l.take n.toNat := by simp only [zUn, Nat.sub_zero, List.drop_zero]
 have hc : cutN l n de = bif (bif de then true else iLt n 0) then true else iLt (l.length : Int) n := rfl
 refine Sx.if_both (fun h1 => ?_) (fun h1 => Sx.if_both (fun h2 => ?_) (fun h2 => Sx.if_both (fun h3 => ?_) (fun h3 => ziT ?_ ?_)))
 ·have c : cutN l n de = true := by rw [hc, h1]; rfl
  rw [c]; exact ⟨rfl, trivial, ⟨rfl, rfl⟩, rfl, trivial⟩
 ·have c : cutN l n de = true := by rw [hc, h1, h2]; rfl
  rw [c]; exact ⟨rfl, trivial, ⟨rfl, rfl⟩, rfl, trivial⟩
 ·have c : cutN l n de = true := by rw [hc, h1, h2, show iLt (l.length : Int) n = true from h3]; rfl
  rw [c]; exact ⟨rfl, trivial, ⟨rfl, rfl⟩, rfl, trivial⟩
 ·simp only [Bz, Sx.Cont.n, zUn] at h2 h3 ⊢; omega
 ·have c : cutN l n de = false := by rw [hc, h1, h2, show iLt (l.length : Int) n = false from h3]; rfl
  rw [c, e]; exact ⟨rfl, trivial, ⟨rfl, rfl⟩, rfl, trivial⟩
theorem ok_dcut (I : Sx.Interp) (O : OO) (hO : O = oo) (R : OB) (hR : R = bO) : Sx.SpecOK I Try.prog 38 (pspec [.obj 28 [.own 5 .u8, .v, .v], .v] false (g_dcut O R)) := by
 refine spec_pI (spL0_ok I O hO R hR) (by kernel_rfl) (fun _ => []) Try.func38 (by kernel_rfl) (by kernel_rfl) rfl Try.ntmps38 (by decide) ?_ ?_
 ·intro ds p bs F h
  unfold g_dcut at h
  split at h
  ·rename_i l bu de n
   simp only [zsI, zpI] at h
   obtain ⟨_, _, rfl⟩ := h
   kernel_rfl
  ·cases h
 ·intro ds bs F hl h
  unfold g_dcut at h
  split at h
  ·rename_i l bu de n
   simp only [zsI, zpI, zaT] at h
   obtain ⟨h0, _, rfl⟩ := h
   exact Eq.mpr (by kernel_rfl) (vc_dcut O R l bu de n (fo_oo O hO) hR (by first | exact h0 | (simp only [zaT]; exact h0)))
  ·cases h
def g_dagain (O : OO) (R : OB) (ds : List Dt) : zG := match ds with
 | [.node [.ints l, .v (.int .i64 bu), .v (.bool de)], .v (.int .i64 n)] => some ((Nat.ble l.length 8388608), [], fun _ => ⟨[.ptr 2 0], [(2, .blk 28 [.row 3, .v (.int .i64 n), .v (.bool false)]), (3, .own 5 (.ints .u8 l))]⟩)
 | _ => none
theorem vc_dagain (O : OO) (R : OB) (l : List Int) (bu : Int) (de : Bool) (n : Int) (F : FO O) (hr : R = bO) (h0 : (Nat.ble l.length 8388608) = true) :
 If ((nMul (nAdd 0 l.length) 1).ble 140737488355328 && (nAdd 0 l.length).ble 9223372036854775807) (True ∧ (yI n = yI n ∧ yB false = yB false) ∧ EqI (app [] l) l ∧ True) False := by
 have h0' := zbL h0
 exact ziT (by simp only [zUn, Bz, Sx.Cont.n]; omega) ⟨trivial, ⟨rfl, rfl⟩, rfl, trivial⟩
theorem ok_dagain (I : Sx.Interp) (O : OO) (hO : O = oo) (R : OB) (hR : R = bO) : Sx.SpecOK I Try.prog 21 (pspec [.robj 28 [.ro .u8, .v, .v], .v] false (g_dagain O R)) := by
 refine spec_pI (spL0_ok I O hO R hR) (by kernel_rfl) (fun _ => []) Try.func21 (by kernel_rfl) (by kernel_rfl) rfl Try.ntmps21 (by decide) ?_ ?_
 ·intro ds p bs F h
  unfold g_dagain at h
  split at h
  ·rename_i l bu de n
   simp only [zsI, zpI] at h
   obtain ⟨_, _, rfl⟩ := h
   kernel_rfl
  ·cases h
 ·intro ds bs F hl h
  unfold g_dagain at h
  split at h
  ·rename_i l bu de n
   simp only [zsI, zpI, zaT] at h
   obtain ⟨h0, _, rfl⟩ := h
   exact Eq.mpr (by kernel_rfl) (vc_dagain O R l bu de n (fo_oo O hO) hR (by first | exact h0 | (simp only [zaT]; exact h0)))
  ·cases h
def g_lrow (O : OO) (R : OB) (ds : List Dt) : zG := match ds with
 | [.ints b] => some ((Nat.ble b.length 1000000), [], fun _ => ⟨[.row 1], [(1, .own 5 (.ints .u8 (lgRow O R b)))]⟩)
 | _ => none
theorem vc_lrow (O : OO) (R : OB) (b : List Int) (F : FO O) (hr : R = bO) (h0 : (Nat.ble b.length 1000000) = true) :
 let T1 := bif iLt (iOf (Cont.ints .u8 b).n) 0 then [] else app [] (R.row (iOf b.length)); If (b.length.ble 1099511627776) (If (Nat.ble 0 1000000 && iLe (iOf (Cont.ints .u8 b).n)
  9223372036854775807) (If (T1.length.ble 1073741824 && Nat.ble 8 1073741824 && b.length.ble 1073741824) (True ∧ EqI (app (app T1 (tabI (O.sum b) 8)) b) (lgRow O R b) ∧ True) False)
  False) False := by
 conv => zeta
 have h0' := zbL h0
 have e : (bif iLt (iOf (Cont.ints u8 b).n) 0 then [] else app [] (R.row (iOf b.length))) = R.row (b.length : Int) := by
  rw [show iLt (iOf (Cont.ints u8 b).n) 0 = false by simp only [zUn, Bz, Sx.Cont.n]; omega]; rfl
 rw [e]
 have l1 := row_len hr (b.length : Int)
 refine ziT (by simp only [Bz, Sx.Cont.n]; omega) (ziT (by simp only [Bz, Sx.Cont.n, zUn]; omega) (ziT (by simp only [Bz, Sx.Cont.n]; omega) ⟨trivial, ?_, trivial⟩))
 rfl
theorem ok_lrow (I : Sx.Interp) (O : OO) (hO : O = oo) (R : OB) (hR : R = bO) : Sx.SpecOK I Try.prog 17 (pspec [.ro .u8] false (g_lrow O R)) := by
 refine spec_pI (spL0_ok I O hO R hR) (by kernel_rfl) (fun _ => []) Try.func17 (by kernel_rfl) (by kernel_rfl) rfl Try.ntmps17 (by decide) ?_ ?_
 ·intro ds p bs F h
  unfold g_lrow at h
  split at h
  ·rename_i b
   simp only [zsI, zpI] at h
   obtain ⟨_, _, rfl⟩ := h
   kernel_rfl
  ·cases h
 ·intro ds bs F hl h
  unfold g_lrow at h
  split at h
  ·rename_i b
   simp only [zsI, zpI, zaT] at h
   obtain ⟨h0, _, rfl⟩ := h
   exact Eq.mpr (by kernel_rfl) (vc_lrow O R b (fo_oo O hO) hR (by first | exact h0 | (simp only [zaT]; exact h0)))
  ·cases h
def spL1 (O : OO) (R : OB) (f : FuncId) : Option Sx.Spec := match f with
 | 36 => some (pspec [.ro .u8, .ro .u8] false (g_hasp O R))
 | 30 => some (pspec [.robj 28 [.ro .u8, .v, .v]] false (g_dread O R))
 | 40 => some (pspec [.obj 28 [.own 5 .u8, .v, .v], .ro .u8] false (g_dwrite O R))
 | 38 => some (pspec [.obj 28 [.own 5 .u8, .v, .v], .v] false (g_dcut O R))
 | 21 => some (pspec [.robj 28 [.ro .u8, .v, .v], .v] false (g_dagain O R))
 | 17 => some (pspec [.ro .u8] false (g_lrow O R))
 | f => spL0 O R f
theorem spL1_ok (I : Sx.Interp) (O : OO) (hO : O = oo) (R : OB) (hR : R = bO) : ∀ f s, spL1 O R f = some s → Sx.SpecOK I Try.prog f s := by
 intro f s h
 unfold spL1 at h
 split at h
 · cases h; exact ok_hasp I O hO R hR
 · cases h; exact ok_dread I O hO R hR
 · cases h; exact ok_dwrite I O hO R hR
 · cases h; exact ok_dcut I O hO R hR
 · cases h; exact ok_dagain I O hO R hR
 · cases h; exact ok_lrow I O hO R hR
 ·exact spL0_ok I O hO R hR _ s h
end Go.Proofs.Ytaohpdhhbnempaa
