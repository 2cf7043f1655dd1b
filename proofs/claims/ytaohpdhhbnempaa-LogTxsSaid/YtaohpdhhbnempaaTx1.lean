/- Locks: which are right, their bytes, and what is read of them: the walks, by the symbolic machine (printed by genTx1.py; VCs by VcTool). -/
import Derived.Test.YtaohpdhhbnempaaTq
namespace Go.Proofs.Ytaohpdhhbnempaa
open Go.RowKit Go.Lib Ckp Cfd Cpd Sx
open IntKind (i64 u64 u8 i32 u32)
set_option linter.unusedVariables false
set_option linter.unusedSimpArgs false
set_option maxRecDepth 1000000
set_option maxHeartbeats 4000000

def spX0 (O : OO) (R : OB) (f : FuncId) : Option Sx.Spec := match f with
 | 103 => some (Sx.vspec (g_pRight O))
 | 64 => some (gspec [.v, .ros] (g_tagO O))
 | 48 => some (pspec [.ro .u8, .v] false (g_putu O R))
 | 49 => some (pspec [.obj 127 [.ro .u8, .v]] true (g_u64r O R))
 | f => spQ6 O R f
theorem spX0_ok (I : Sx.Interp) (O : OO) (hO : O = oo) (R : OB) (hR : R = bO) : ∀ f s, spX0 O R f = some s → Sx.SpecOK I Try.prog f s := by
 intro f s h
 unfold spX0 at h
 split at h
 · cases h; exact ok_pRight I O hO
 · cases h; exact ok_hTag I O hO
 · cases h; exact ok_putu I O hO R hR
 · cases h; exact ok_u64r I O hO R hR
 ·exact spQ6_ok I O hO R hR _ s h
def g_thgt (O : OO) (R : OB) (ds : List Dt) : zG := match ds with
 | [.v (.int .i64 n)] => some (true, [], fun _ => ⟨[.v (.bool (hgtO n))], []⟩)
 | _ => none
theorem vc_thgt (O : OO) (R : OB) (n : Int) (F : FO O) (hr : R = bO) :
 If (iLe 0 n) (yB (iLe n 1048576) = yB (hgtO n) ∧ True ∧ True) (yB false = yB (hgtO n) ∧ True ∧ True) := by
 unfold hgtO
 exact Sx.if_both (fun h => ⟨by rw [h]; rfl, trivial, trivial⟩) (fun h => ⟨by rw [h]; rfl, trivial, trivial⟩)
theorem ok_thgt (I : Sx.Interp) (O : OO) (hO : O = oo) (R : OB) (hR : R = bO) : Sx.SpecOK I Try.prog 105 (pspec [.v] false (g_thgt O R)) := by
 refine spec_pI (spX0_ok I O hO R hR) (by kernel_rfl) (fun _ => []) Try.func105 (by kernel_rfl) (by kernel_rfl) rfl Try.ntmps105 (by decide) ?_ ?_
 ·intro ds p bs F h
  unfold g_thgt at h
  split at h
  ·rename_i n
   simp only [zsI, zpI] at h
   obtain ⟨_, _, rfl⟩ := h
   kernel_rfl
  ·cases h
 ·intro ds bs F hl h
  unfold g_thgt at h
  split at h
  ·rename_i n
   simp only [zsI, zpI, zaT] at h
   obtain ⟨_, _, rfl⟩ := h
   exact Eq.mpr (by kernel_rfl) (vc_thgt O R n (fo_oo O hO) hR )
  ·cases h
def g_tbad (O : OO) (R : OB) (ds : List Dt) : zG := match ds with
 | [.v (.int .u64 p)] => some ((inU p 18446744073709551616), [], fun _ => ⟨[.v (.bool (badT O p))], []⟩)
 | _ => none
theorem vc_tbad (O : OO) (R : OB) (p : Int) (F : FO O) (hr : R = bO) (h0 : (inU p 18446744073709551616) = true) :
 If (inU p 18446744073709551616) ((yB !O.pright p) = yB (badT O p) ∧ True ∧ True) False := by
 exact ziT h0 ⟨rfl, trivial, trivial⟩
theorem ok_tbad (I : Sx.Interp) (O : OO) (hO : O = oo) (R : OB) (hR : R = bO) : Sx.SpecOK I Try.prog 102 (pspec [.v] false (g_tbad O R)) := by
 refine spec_pI (spX0_ok I O hO R hR) (by kernel_rfl) (fun _ => []) Try.func102 (by kernel_rfl) (by kernel_rfl) rfl Try.ntmps102 (by decide) ?_ ?_
 ·intro ds p bs F h
  unfold g_tbad at h
  split at h
  ·rename_i p
   simp only [zsI, zpI] at h
   obtain ⟨_, _, rfl⟩ := h
   kernel_rfl
  ·cases h
 ·intro ds bs F hl h
  unfold g_tbad at h
  split at h
  ·rename_i p
   simp only [zsI, zpI, zaT] at h
   obtain ⟨h0, _, rfl⟩ := h
   exact Eq.mpr (by kernel_rfl) (vc_tbad O R p (fo_oo O hO) hR (by first | exact h0 | (simp only [zaT]; exact h0)))
  ·cases h
def spX1 (O : OO) (R : OB) (f : FuncId) : Option Sx.Spec := match f with
 | 105 => some (pspec [.v] false (g_thgt O R))
 | 102 => some (pspec [.v] false (g_tbad O R))
 | f => spX0 O R f
theorem spX1_ok (I : Sx.Interp) (O : OO) (hO : O = oo) (R : OB) (hR : R = bO) : ∀ f s, spX1 O R f = some s → Sx.SpecOK I Try.prog f s := by
 intro f s h
 unfold spX1 at h
 split at h
 · cases h; exact ok_thgt I O hO R hR
 · cases h; exact ok_tbad I O hO R hR
 ·exact spX0_ok I O hO R hR _ s h
def g_tidx (O : OO) (R : OB) (ds : List Dt) : zG := match ds with
 | [.ints l, .node []] => some ((Nat.ble l.length 1000) && (inUs 18446744073709551616 l), [], fun _ => ⟨[.v (.int .i64 (idxT (badT O) l))], []⟩)
 | _ => none
theorem vc_tidx (O : OO) (R : OB) (l : List Int) (F : FO O) (hr : R = bO) (h1 : (Nat.ble l.length 1000) = true) (h0 : (inUs 18446744073709551616 l) = true) :
 (∃ (x : Nat), (x ≤ l.length ∧ ∀ (k : Nat), k.succ ≤ x → badT O (l.getD k 0) = false) ∧ (yI 0 = yI (iOf x) ∧ SV.fn (Fn.func 102) [] = SV.fn (Fn.func 102) [] ∧ yI (iOf l.length) = yI (iOf l.length) ∧ True) ∧ EqI l l ∧ True) ∧ ∀ (x : Nat), (x ≤ l.length ∧ ∀ (k : Nat), k.succ ≤ x → badT O (l.getD k 0) = false) → If (iLt (iOf x) (iOf (Cont.ints .u64 l).n)) (If (iLe 0 (iOf x) && (iOf x).toNat.blt l.length) (If (true && Nat.beq 1 1 && (iOf x).toNat.blt l.length) (If (inU (l.getD (iOf x).toNat 0) 18446744073709551616) (If (badT O (l.getD (iOf x).toNat 0)) (yI (iOf x) = yI (idxT (badT O) l) ∧ True ∧ True) (∃ (x' : Nat), (x' ≤ l.length ∧ ∀ (k : Nat), k.succ ≤ x' → badT O (l.getD k 0) = false) ∧ (nSub l.length x').succ ≤ nSub l.length x ∧ (yI (i64.wrap (iAdd (iOf x) 1)) = yI (iOf x') ∧ SV.fn (Fn.func 102) [] = SV.fn (Fn.func 102) [] ∧ yI (iOf l.length) = yI (iOf l.length) ∧ True) ∧ EqI l l ∧ True)) False) False) False) (yI (iNeg 1) = yI (idxT (badT O) l) ∧ True ∧ True) := by
 have hm := zbL h1
 refine ⟨⟨0, ⟨Nat.zero_le _, fun k hk => absurd hk (Nat.not_succ_le_zero _)⟩, (by repeat' (first | exact True.intro | exact rfl | refine ⟨?_, ?_⟩))⟩, fun x ⟨x1, x2⟩ => ?_⟩
 have hn : (iOf x).toNat = x := by simp only [zUn, ztN]
 rw [hn]
 refine Sx.if_both (fun h => ?_) (fun h => ?_)
 ·simp only [Bz, Sx.Cont.n, zUn] at h
  have hlt : x < l.length := by omega
  have hbl : x.blt l.length = true := by rw [Nat.blt_eq]; exact hlt
  have w1 : i64.wrap (iAdd (iOf x) 1) = iOf (x + 1) := by simp only [zUn]; rw [IntKind.wrap_i64]; omega
  rw [hbl, w1]
  refine ziT (by simp only [Bz, Sx.Cont.n, zUn]; exact ⟨by omega, trivial⟩) (ziT rfl (ziT (inUs_atT h0 hlt) (Sx.if_both (fun hc => ?_) (fun hc => ?_))))
  ·exact ⟨by rw [idxT_here hlt (fun k hk => x2 k hk) hc]; rfl, trivial, trivial⟩
  ·exact ⟨x + 1, ⟨hlt, fun k hk => by
    rcases Nat.lt_or_ge k x with h' | h'
    ·exact x2 k h'
    ·have : k = x := by omega
     rw [this]; exact hc⟩, by simp only [zUn]; omega, (by repeat' (first | exact True.intro | exact rfl | refine ⟨?_, ?_⟩))⟩
 ·simp only [Bz, Sx.Cont.n, zUn] at h
  have hx2 : x = l.length := by omega
  subst hx2
  exact ⟨by rw [idxT_none (fun k hk => x2 k hk)]; rfl, trivial, trivial⟩
theorem ok_tidx (I : Sx.Interp) (O : OO) (hO : O = oo) (R : OB) (hR : R = bO) : Sx.SpecOK I Try.prog 108 (pspec [.ro .u64, .fn 102 []] false (g_tidx O R)) := by
 refine spec_pI (spX1_ok I O hO R hR) (by kernel_rfl) (fun ds => match ds with | [.ints l, .node []] => [⟨Nat, [0, 1, 7], [], fun B j => [(8, .v (.int .i64 (j : Int)))], fun B j => [], fun j => j ≤ l.length ∧ ∀ k, k < j → badT O (l.getD k 0) = false, fun j => l.length - j, 0⟩] | _ => []) Try.func108 (by kernel_rfl) (by kernel_rfl) rfl Try.ntmps108 (by decide) ?_ ?_
 ·intro ds p bs F h
  unfold g_tidx at h
  split at h
  ·rename_i l
   simp only [zsI, zpI] at h
   obtain ⟨_, _, rfl⟩ := h
   kernel_rfl
  ·cases h
 ·intro ds bs F hl h
  unfold g_tidx at h
  split at h
  ·rename_i l
   simp only [zsI, zpI, zaT] at h
   obtain ⟨⟨h1, h0⟩, _, rfl⟩ := h
   exact Eq.mpr (by kernel_rfl) (vc_tidx O R l (fo_oo O hO) hR (by first | exact h1 | (simp only [zaT]; exact h1)) (by first | exact h0 | (simp only [zaT]; exact h0)))
  ·cases h
def spX2 (O : OO) (R : OB) (f : FuncId) : Option Sx.Spec := match f with
 | 108 => some (pspec [.ro .u64, .fn 102 []] false (g_tidx O R))
 | f => spX1 O R f
theorem spX2_ok (I : Sx.Interp) (O : OO) (hO : O = oo) (R : OB) (hR : R = bO) : ∀ f s, spX2 O R f = some s → Sx.SpecOK I Try.prog f s := by
 intro f s h
 unfold spX2 at h
 split at h
 · cases h; exact ok_tidx I O hO R hR
 ·exact spX1_ok I O hO R hR _ s h
def g_thas (O : OO) (R : OB) (ds : List Dt) : zG := match ds with
 | [.ints l, .node []] => some ((Nat.ble l.length 1000) && (inUs 18446744073709551616 l), [], fun _ => ⟨[.v (.bool (iLe 0 (idxT (badT O) l)))], []⟩)
 | _ => none
theorem vc_thas (O : OO) (R : OB) (l : List Int) (F : FO O) (hr : R = bO) (h1 : (Nat.ble l.length 1000) = true) (h0 : (inUs 18446744073709551616 l) = true) :
 If (l.length.ble 1000 && inUs 18446744073709551616 l) (yB (iLe 0 (idxT (badT O) l)) = yB (iLe 0 (idxT (badT O) l)) ∧ True ∧ True) False := by
 exact ziT (by rw [h1, h0]; rfl) ⟨rfl, trivial, trivial⟩
theorem ok_thas (I : Sx.Interp) (O : OO) (hO : O = oo) (R : OB) (hR : R = bO) : Sx.SpecOK I Try.prog 104 (pspec [.ro .u64, .fn 102 []] false (g_thas O R)) := by
 refine spec_pI (spX2_ok I O hO R hR) (by kernel_rfl) (fun _ => []) Try.func104 (by kernel_rfl) (by kernel_rfl) rfl Try.ntmps104 (by decide) ?_ ?_
 ·intro ds p bs F h
  unfold g_thas at h
  split at h
  ·rename_i l
   simp only [zsI, zpI] at h
   obtain ⟨_, _, rfl⟩ := h
   kernel_rfl
  ·cases h
 ·intro ds bs F hl h
  unfold g_thas at h
  split at h
  ·rename_i l
   simp only [zsI, zpI, zaT] at h
   obtain ⟨⟨h1, h0⟩, _, rfl⟩ := h
   exact Eq.mpr (by kernel_rfl) (vc_thas O R l (fo_oo O hO) hR (by first | exact h1 | (simp only [zaT]; exact h1)) (by first | exact h0 | (simp only [zaT]; exact h0)))
  ·cases h
def spX3 (O : OO) (R : OB) (f : FuncId) : Option Sx.Spec := match f with
 | 104 => some (pspec [.ro .u64, .fn 102 []] false (g_thas O R))
 | f => spX2 O R f
theorem spX3_ok (I : Sx.Interp) (O : OO) (hO : O = oo) (R : OB) (hR : R = bO) : ∀ f s, spX3 O R f = some s → Sx.SpecOK I Try.prog f s := by
 intro f s h
 unfold spX3 at h
 split at h
 · cases h; exact ok_thas I O hO R hR
 ·exact spX2_ok I O hO R hR _ s h
def g_lkright (O : OO) (R : OB) (ds : List Dt) : zG := match ds with
 | [.node [.deep l]] => some ((Nat.ble l.length 1000) && (lkW (l.map vB)), [], fun _ => ⟨[.v (.bool (lkOk O (l.map vB)))], []⟩)
 | _ => none
theorem vc_lkright (O : OO) (R : OB) (l : List (List DD)) (F : FO O) (hr : R = bO) (g0 : (Nat.ble l.length 1000) = true) (g1 : (lkW (l.map vB)) = true) :
 let T1 := yB false = yB (lkOk O (List.map vB l)) ∧ True ∧ True; (∃ (x : Nat), (x ≤ l.length ∧ ∀ (k : Nat), k.succ ≤ x → brOk O (vB (l.getD k [])) = true) ∧ (yI 0 = yI (iOf x) ∧
  SV.fn (Fn.func 102) [] = SV.fn (Fn.func 102) [] ∧ yI (iOf l.length) = yI (iOf l.length) ∧ True) ∧ Res.deep brD l = Res.deep brD l ∧ True)
  ∧ ∀ (x : Nat), (x ≤ l.length ∧ ∀ (k : Nat), k.succ ≤ x → brOk O (vB (l.getD k [])) = true) → If (iLt (iOf x) (iOf l.length)) (If (iLe 0 (iOf x) && (iOf x).toNat.blt l.length) (If
  (true && Nat.beq 4 4 && (iOf x).toNat.blt l.length) (If (iLt 12 (iOf (Cont.ints .u64 (List.map (fun (x : List DD) => (x.getD 0 (DD.n 0)).i) ((l.getD (iOf x).toNat []).getD 0 (DD.n
  0)).l)).n)) T1 (If ((List.map (fun (x : List DD) => (x.getD 0 (DD.n 0)).i) ((l.getD (iOf x).toNat []).getD 0 (DD.n 0)).l).length.ble 1000 && inUs 18446744073709551616 (List.map (fun
  (x : List DD) => (x.getD 0 (DD.n 0)).i) ((l.getD (iOf x).toNat []).getD 0 (DD.n 0)).l)) (If (iLe 0 (idxT (badT O) (List.map (fun (x : List DD) => (x.getD 0 (DD.n 0)).i) ((l.getD
  (iOf x).toNat []).getD 0 (DD.n 0)).l))) T1 (If (!hgtO ((l.getD (iOf x).toNat []).getD 1 (DD.n 0)).i) T1 (If (!hgtO ((l.getD (iOf x).toNat []).getD 2 (DD.n 0)).i) T1 (If (iBne
  ((l.getD (iOf x).toNat []).getD 3 (DD.n 0)).i 0) (If (inU ((l.getD (iOf x).toNat []).getD 3 (DD.n 0)).i 18446744073709551616) (If (badT O ((l.getD (iOf x).toNat []).getD 3 (DD.n
  0)).i) T1 (∃ (x' : Nat), (x' ≤ l.length ∧ ∀ (k : Nat), k.succ ≤ x' → brOk O (vB (l.getD k [])) = true) ∧ (nSub l.length x').succ ≤ nSub l.length x ∧ (yI (i64.wrap (iAdd (iOf
  x) 1)) = yI (iOf x') ∧ SV.fn (Fn.func 102) [] = SV.fn (Fn.func 102) [] ∧ yI (iOf l.length) = yI (iOf l.length) ∧ True) ∧ Res.deep brD l =
  Res.deep brD l ∧ True)) False) (∃ (x' : Nat), (x' ≤ l.length ∧ ∀ (k : Nat), k.succ ≤ x' → brOk O (vB (l.getD k [])) = true) ∧ (nSub l.length x').succ ≤ nSub l.length x ∧ (yI
  (i64.wrap (iAdd (iOf x) 1)) = yI (iOf x') ∧ SV.fn (Fn.func 102) [] = SV.fn (Fn.func 102) [] ∧ yI (iOf l.length) = yI (iOf
  l.length) ∧ True) ∧ Res.deep brD l = Res.deep brD l ∧ True))))) False)) False) False) (If (iLt 0 (iOf l.length)) (yB (iLe (iOf l.length) 4) = yB (lkOk O (List.map vB l)) ∧ True ∧
  True) T1) := by
 conv => zeta
 have g0' := zbL g0
 refine ⟨⟨0, ⟨Nat.zero_le _, fun k hk => absurd hk (Nat.not_succ_le_zero _)⟩, (by repeat' (first | exact True.intro | exact rfl | refine ⟨?_, ?_⟩))⟩, fun x ⟨x1, x2⟩ => ?_⟩
 have hn : (iOf x).toNat = x := by simp only [zUn, ztN]
 rw [hn]
 refine Sx.if_both (fun d => ?_) (fun d => ?_)
 ·simp only [Bz, Sx.Cont.n, zUn] at d
  have hx : x < l.length := by omega
  have hb : x.blt l.length = true := by rw [Nat.blt_eq]; exact hx
  have w1 : i64.wrap (iAdd (iOf x) 1) = iOf (x + 1) := by simp only [zUn]; rw [IntKind.wrap_i64]; omega
  have hw : brW (vB (l.getD x [])) = true := all_atT (p := brW) g1 [] hx
  have hbad : brOk O (vB (l.getD x [])) = false → lkOk O (l.map vB) = false := fun h => by
   unfold lkOk; rw [all_badT [] hx h]; rfl
  have ext : brOk O (vB (l.getD x [])) = true → ∀ k, k.succ ≤ x + 1 → brOk O (vB (l.getD k [])) = true := fun h k hk => by
   rcases Nat.lt_or_ge k x with h' | h'
   ·exact x2 k h'
   ·have : k = x := by omega
    rw [this]; exact h
  obtain ⟨v, hv⟩ : ∃ v, vB (l.getD x []) = v := ⟨_, rfl⟩
  have e0 : List.map (fun (x : List DD) => (x.getD 0 (DD.n 0)).i) ((l.getD x []).getD 0 (DD.n 0)).l = v.k := by rw [← hv]; rfl
  have e1 : ((l.getD x []).getD 1 (DD.n 0)).i = v.a := by rw [← hv]; rfl
  have e2 : ((l.getD x []).getD 2 (DD.n 0)).i = v.d := by rw [← hv]; rfl
  have e3 : ((l.getD x []).getD 3 (DD.n 0)).i = v.s := by rw [← hv]; rfl
  rw [hv] at hw hbad ext
  obtain ⟨w2, w3, w4⟩ := brW_iff.1 hw
  rw [hb, w1, e0, e1, e2, e3]
  have nb : ∀ {P : Prop}, (brOk O v = true → P) → ¬P → (Value.bool false = Value.bool (lkOk O (List.map vB l)) ∧ True ∧ True) := fun h hn => ⟨by rw [hbad (Bool.eq_false_iff.2 fun e => hn (h e))], trivial, trivial⟩
  refine ziT (by simp only [Bz, Sx.Cont.n, zUn]; exact ⟨by omega, trivial⟩) (ziT rfl (Sx.if_both (fun f => ?_) (fun f => ?_)))
  ·simp only [Bz, Sx.Cont.n, zUn] at f
   exact nb (fun h => (brOk_iff.1 h).1) (by omega)
  simp only [Bz, Sx.Cont.n, zUn] at f
  refine ziT (by rw [w2, Bool.and_true, Nat.ble_eq]; exact w4) (Sx.if_both (fun a => nb (fun h => (brOk_iff.1 h).2.1) (by rw [← idxT_all, a]; decide)) (fun a => ?_))
  refine Sx.if_both (fun p => nb (fun h => (brOk_iff.1 h).2.2.1) (by intro h; rw [h] at p; cases p)) (fun p => ?_)
  refine Sx.if_both (fun q => nb (fun h => (brOk_iff.1 h).2.2.2.1) (by intro h; rw [h] at q; cases q)) (fun q => ?_)
  have a' : (v.k.all fun p => !(badT O p)) = true := by rw [← idxT_all, a]; rfl
  have p' : hgtO v.a = true := by simpa using p
  have q' : hgtO v.d = true := by simpa using q
  refine Sx.if_both (fun s => ziT w3 (Sx.if_both (fun t => nb (fun h => (brOk_iff.1 h).2.2.2.2) (by rw [s, t]; decide)) (fun t => ?_))) (fun s => ?_)
  ·exact ⟨x + 1, ⟨hx, ext (brOk_iff.2 ⟨by omega, a', p', q', by rw [s, t]; rfl⟩)⟩, by simp only [zUn]; omega, (by repeat' (first | exact True.intro | exact rfl | refine ⟨?_, ?_⟩))⟩
  ·exact ⟨x + 1, ⟨hx, ext (brOk_iff.2 ⟨by omega, a', p', q', by rw [s]; rfl⟩)⟩, by simp only [zUn]; omega, (by repeat' (first | exact True.intro | exact rfl | refine ⟨?_, ?_⟩))⟩
 ·simp only [Bz, Sx.Cont.n, zUn] at d
  obtain rfl : x = l.length := by omega
  have hall : (l.map vB).all (brOk O) = true := all_mkT [] fun k hk => x2 k hk
  refine Sx.if_both (fun e => ?_) (fun e => ?_)
  ·simp only [Bz, Sx.Cont.n, zUn] at e
   have e2 : lkOk O (l.map vB) = iLe (iOf l.length) 4 := by
    rw [Bool.eq_iff_iff, lkOk_iff, List.length_map]
    simp only [Bz, Sx.Cont.n, zUn]
    exact ⟨fun h => by omega, fun h => ⟨hall, by omega, by omega⟩⟩
   exact ⟨by rw [e2], trivial, trivial⟩
  ·simp only [Bz, Sx.Cont.n, zUn] at e
   have e2 : lkOk O (l.map vB) = false := by
    rw [Bool.eq_false_iff, Ne, lkOk_iff, List.length_map]
    intro h; omega
   exact ⟨by rw [e2], trivial, trivial⟩
theorem ok_lkright (I : Sx.Interp) (O : OO) (hO : O = oo) (R : OB) (hR : R = bO) : Sx.SpecOK I Try.prog 88 (pspec [.agg [.deep brD]] false (g_lkright O R)) := by
 refine spec_pI (spX3_ok I O hO R hR) (by kernel_rfl) (fun ds => match ds with | [.node [.deep l]] => [⟨Nat, [1, 3, 7, 8], [], fun B j => [(9, .v (.int .i64 (j : Nat)))], fun B j => [], fun j => j ≤ l.length ∧ (∀ k, k < j → brOk O (vB (l.getD k [])) = true), fun j => l.length - j, 0⟩] | _ => []) Try.func88 (by kernel_rfl) (by kernel_rfl) rfl Try.ntmps88 (by decide) ?_ ?_
 ·intro ds p bs F h
  unfold g_lkright at h
  split at h
  ·rename_i l
   simp only [zsI, zpI] at h
   obtain ⟨_, _, rfl⟩ := h
   kernel_rfl
  ·cases h
 ·intro ds bs F hl h
  unfold g_lkright at h
  split at h
  ·rename_i l
   simp only [zsI, zpI, zaT] at h
   obtain ⟨⟨g0, g1⟩, _, rfl⟩ := h
   exact Eq.mpr (by kernel_rfl) (vc_lkright O R l (fo_oo O hO) hR (by first | exact g0 | (simp only [zaT]; exact g0)) (by first | exact g1 | (simp only [zaT]; exact g1)))
  ·cases h
def spX4 (O : OO) (R : OB) (f : FuncId) : Option Sx.Spec := match f with
 | 88 => some (pspec [.agg [.deep brD]] false (g_lkright O R))
 | f => spX3 O R f
theorem spX4_ok (I : Sx.Interp) (O : OO) (hO : O = oo) (R : OB) (hR : R = bO) : ∀ f s, spX4 O R f = some s → Sx.SpecOK I Try.prog f s := by
 intro f s h
 unfold spX4 at h
 split at h
 · cases h; exact ok_lkright I O hO R hR
 ·exact spX3_ok I O hO R hR _ s h
def g_lkbytes (O : OO) (R : OB) (ds : List Dt) : zG := match ds with
 | [.node [.deep l]] => some ((Nat.ble l.length 1000) && (lkW (l.map vB)), [], fun _ => ⟨[.row 1], [(1, .own 5 (.ints .u8 (lkZ O R (l.map vB))))]⟩)
 | _ => none
theorem vc_lkbytes (O : OO) (R : OB) (l : List (List DD)) (F : FO O) (hr : R = bO) (g0 : (Nat.ble l.length 1000) = true) (g1 : (lkW (l.map vB)) = true) :
 If (l.length.ble 1000 && lkW (List.map vB l)) (If (!lkOk O (List.map vB l)) (True ∧ EqI [] (lkZ O R (List.map vB l)) ∧ True) (If (Nat.ble 0 1000000 && iLe (iOf l.length) 9223372036854775807) ( (∃ (x : Nat), x ≤ l.length ∧ (yI 0 = yI (iOf x) ∧ yI (iOf l.length) = yI (iOf l.length) ∧ True) ∧ EqI (app [] (R.row (iOf l.length))) (lkP R (List.map vB l) x) ∧ Res.deep brD l = Res.deep brD l ∧ True) ∧ ∀ (x : Nat), x ≤ l.length → If (iLt (iOf x) (iOf l.length)) (If (iLe 0 (iOf x) && (iOf x).toNat.blt l.length) (If (true && Nat.beq 4 4 && (iOf x).toNat.blt l.length) (If ((lkP R (List.map vB l) x).length.ble 1000000 && iLe (iOf (Cont.ints .u64 (List.map (fun (x : List DD) => (x.getD 0 (DD.n 0)).i) ((l.getD (iOf x).toNat []).getD 0 (DD.n 0)).l)).n) 9223372036854775807) (∃ (x0 : Nat × Nat), x0.2 ≤ vbN (List.map vB l) x0.1 ∧ ((yI 0 = yI (iOf x0.2) ∧ yI (iOf l.length) = yI (iOf l.length) ∧ yI (iOf x) = yI (iOf x) ∧ yI (iOf (List.map (fun (x : List DD) => (x.getD 0 (DD.n 0)).i) ((l.getD (iOf x).toNat []).getD 0 (DD.n 0)).l).length) = yI (iOf (List.map (fun (x : List DD) => (x.getD 0 (DD.n 0)).i) ((l.getD (iOf x).toNat []).getD 0 (DD.n 0)).l).length) ∧ True) ∧ EqI (app (lkP R (List.map vB l) x) (R.row (iOf (List.map (fun (x : List DD) => (x.getD 0 (DD.n 0)).i) ((l.getD (iOf x).toNat []).getD 0 (DD.n 0)).l).length))) (lkQ R (List.map vB l) x0.1 x0.2) ∧ (yI ((l.getD (iOf x).toNat []).getD 1 (DD.n 0)).i = yI ((l.getD (iOf x).toNat []).getD 1 (DD.n 0)).i ∧ yI ((l.getD (iOf x).toNat []).getD 2 (DD.n 0)).i = yI ((l.getD (iOf x).toNat []).getD 2 (DD.n 0)).i ∧ Value.int .u64 ((l.getD (iOf x).toNat []).getD 3 (DD.n 0)).i = Value.int .u64 ((l.getD (iOf x).toNat []).getD 3 (DD.n 0)).i) ∧ EqI (List.map (fun (x : List DD) => (x.getD 0 (DD.n 0)).i) ((l.getD (iOf x).toNat []).getD 0 (DD.n 0)).l) (List.map (fun (x : List DD) => (x.getD 0 (DD.n 0)).i) ((l.getD (iOf x).toNat []).getD 0 (DD.n 0)).l) ∧ Res.deep brD l = Res.deep brD l ∧ True) ∧ ∀ (x_1 : Nat × Nat), x_1.2 ≤ vbN (List.map vB l) x_1.1 → x_1.1 = x0.1 → If (iLt (iOf x_1.snd) (iOf (Cont.ints .u64 (List.map (fun (x : List DD) => (x.getD 0 (DD.n 0)).i) ((l.getD (iOf x).toNat []).getD 0 (DD.n 0)).l)).n)) (If (iLe 0 (iOf x_1.snd) && (iOf x_1.2).toNat.blt (List.map (fun (x : List DD) => (x.getD 0 (DD.n 0)).i) ((l.getD (iOf x).toNat []).getD 0 (DD.n 0)).l).length) (If (true && Nat.beq 1 1 && (iOf x_1.2).toNat.blt (List.map (fun (x : List DD) => (x.getD 0 (DD.n 0)).i) ((l.getD (iOf x).toNat []).getD 0 (DD.n 0)).l).length) (If ((lkQ R (List.map vB l) x_1.1 x_1.2).length.ble 1000000 && inU ((List.map (fun (x : List DD) => (x.getD 0 (DD.n 0)).i) ((l.getD (iOf x).toNat []).getD 0 (DD.n 0)).l).getD (iOf x_1.2).toNat 0) 18446744073709551616) (∃ (x' : Nat × Nat), x'.2 ≤ vbN (List.map vB l) x'.1 ∧ x'.1 = x0.1 ∧ (nSub (vbN (List.map vB l) x'.1) x'.2).succ ≤ nSub (vbN (List.map vB l) x_1.1) x_1.2 ∧ (yI (i64.wrap (iAdd (iOf x_1.2) 1)) = yI (iOf x'.2) ∧ yI (iOf l.length) = yI (iOf l.length) ∧ yI (iOf x) = yI (iOf x) ∧ yI (iOf (List.map (fun (x : List DD) => (x.getD 0 (DD.n 0)).i) ((l.getD (iOf x).toNat []).getD 0 (DD.n 0)).l).length) = yI (iOf (List.map (fun (x : List DD) => (x.getD 0 (DD.n 0)).i) ((l.getD (iOf x).toNat []).getD 0 (DD.n 0)).l).length) ∧ True) ∧ EqI (app (lkQ R (List.map vB l) x_1.1 x_1.2) (u64B ((List.map (fun (x : List DD) => (x.getD 0 (DD.n 0)).i) ((l.getD (iOf x).toNat []).getD 0 (DD.n 0)).l).getD (iOf x_1.2).toNat 0))) (lkQ R (List.map vB l) x'.1 x'.2) ∧ (yI ((l.getD (iOf x).toNat []).getD 1 (DD.n 0)).i = yI ((l.getD (iOf x).toNat []).getD 1 (DD.n 0)).i ∧ yI ((l.getD (iOf x).toNat []).getD 2 (DD.n 0)).i = yI ((l.getD (iOf x).toNat []).getD 2 (DD.n 0)).i ∧ Value.int .u64 ((l.getD (iOf x).toNat []).getD 3 (DD.n 0)).i = Value.int .u64 ((l.getD (iOf x).toNat []).getD 3 (DD.n 0)).i) ∧ EqI (List.map (fun (x : List DD) => (x.getD 0 (DD.n 0)).i) ((l.getD (iOf x).toNat []).getD 0 (DD.n 0)).l) (List.map (fun (x : List DD) => (x.getD 0 (DD.n 0)).i) ((l.getD (iOf x).toNat []).getD 0 (DD.n 0)).l) ∧ Res.deep brD l = Res.deep brD l ∧ True) False) False) False) (If ((lkQ R (List.map vB l) x_1.1 x_1.2).length.ble 1000000 && iLe ((l.getD (iOf x).toNat []).getD 1 (DD.n 0)).i 9223372036854775807) (If ((bif iLt ((l.getD (iOf x).toNat []).getD 1 (DD.n 0)).i 0 then lkQ R (List.map vB l) x_1.1 x_1.2 else app (lkQ R (List.map vB l) x_1.1 x_1.2) (R.row ((l.getD (iOf x).toNat []).getD 1 (DD.n 0)).i)).length.ble 1000000 && iLe ((l.getD (iOf x).toNat []).getD 2 (DD.n 0)).i 9223372036854775807) (If ((bif iLt ((l.getD (iOf x).toNat []).getD 2 (DD.n 0)).i 0 then bif iLt ((l.getD (iOf x).toNat []).getD 1 (DD.n 0)).i 0 then lkQ R (List.map vB l) x_1.1 x_1.2 else app (lkQ R (List.map vB l) x_1.1 x_1.2) (R.row ((l.getD (iOf x).toNat []).getD 1 (DD.n 0)).i) else app (bif iLt ((l.getD (iOf x).toNat []).getD 1 (DD.n 0)).i 0 then lkQ R (List.map vB l) x_1.1 x_1.2 else app (lkQ R (List.map vB l) x_1.1 x_1.2) (R.row ((l.getD (iOf x).toNat []).getD 1 (DD.n 0)).i)) (R.row ((l.getD (iOf x).toNat []).getD 2 (DD.n 0)).i)).length.ble 1000000 && inU ((l.getD (iOf x).toNat []).getD 3 (DD.n 0)).i 18446744073709551616) (∃ (x' : Nat), x' ≤ l.length ∧ (nSub l.length x').succ ≤ nSub l.length x ∧ (yI (i64.wrap (iAdd (iOf x) 1)) = yI (iOf x') ∧ yI (iOf l.length) = yI (iOf l.length) ∧ True) ∧ EqI (app (bif iLt ((l.getD (iOf x).toNat []).getD 2 (DD.n 0)).i 0 then bif iLt ((l.getD (iOf x).toNat []).getD 1 (DD.n 0)).i 0 then lkQ R (List.map vB l) x_1.1 x_1.2 else app (lkQ R (List.map vB l) x_1.1 x_1.2) (R.row ((l.getD (iOf x).toNat []).getD 1 (DD.n 0)).i) else app (bif iLt ((l.getD (iOf x).toNat []).getD 1 (DD.n 0)).i 0 then lkQ R (List.map vB l) x_1.1 x_1.2 else app (lkQ R (List.map vB l) x_1.1 x_1.2) (R.row ((l.getD (iOf x).toNat []).getD 1 (DD.n 0)).i)) (R.row ((l.getD (iOf x).toNat []).getD 2 (DD.n 0)).i)) (u64B ((l.getD (iOf x).toNat []).getD 3 (DD.n 0)).i)) (lkP R (List.map vB l) x') ∧ Res.deep brD l = Res.deep brD l ∧ True) False) False) False)) False) False) False) (True ∧ EqI (lkP R (List.map vB l) x) (lkZ O R (List.map vB l)) ∧ True)) False)) False := by
 have g0' := zbL g0
 refine ziT (by rw [g1, Bool.and_true]; exact g0) (Sx.if_both (fun k => ⟨trivial, ?_, trivial⟩) (fun k => ?_))
 ·have k : lkOk O (List.map vB l) = false := by simpa using k
  show [] = lkZ O R (List.map vB l)
  unfold lkZ; rw [k]; rfl
 have k : lkOk O (List.map vB l) = true := by simpa using k
 obtain ⟨k1, k2, k3⟩ := lkOk_iff.1 k
 obtain ⟨V, hV⟩ : ∃ V, List.map vB l = V := ⟨_, rfl⟩
 have hl : V.length = l.length := by rw [← hV, List.length_map]
 rw [hV] at k k1 k2 k3 g1 ⊢
 refine ziT (by simp only [Bz, Sx.Cont.n, zUn]; exact ⟨by decide, by omega⟩) ⟨⟨0, Nat.zero_le _, ⟨rfl, rfl, trivial⟩, ?_, rfl, trivial⟩, fun x hx0 => ?_⟩
 ·show [] ++ R.row _ = R.row (V.length : Int) ++ _
  rw [hl]; simp [zUn]
 have hn : (iOf x).toNat = x := by simp only [zUn, ztN]
 rw [hn]
 have lp := lkP_len hr k x
 refine Sx.if_both (fun d => ?_) (fun d => ?_)
 ·simp only [Bz, Sx.Cont.n, zUn] at d
  have hx : x < l.length := by omega
  have hb : x.blt l.length = true := by rw [Nat.blt_eq]; exact hx
  have w1 : i64.wrap (iAdd (iOf x) 1) = iOf (x + 1) := by simp only [zUn]; rw [IntKind.wrap_i64]; omega
  have hxV : x < V.length := by omega
  obtain ⟨v, hv⟩ : ∃ v, vB (l.getD x []) = v := ⟨_, rfl⟩
  have hvV : vbAt V x = v := by rw [← hV, vbAt_map hx, hv]
  have hN : vbN V x = v.k.length := by unfold vbN; rw [hvV]
  have e0 : List.map (fun (x : List DD) => (x.getD 0 (DD.n 0)).i) ((l.getD x []).getD 0 (DD.n 0)).l = v.k := by rw [← hv]; rfl
  have e1 : ((l.getD x []).getD 1 (DD.n 0)).i = v.a := by rw [← hv]; rfl
  have e2 : ((l.getD x []).getD 2 (DD.n 0)).i = v.d := by rw [← hv]; rfl
  have e3 : ((l.getD x []).getD 3 (DD.n 0)).i = v.s := by rw [← hv]; rfl
  rw [hb, w1, e0]
  rw [e1, e2, e3]
  obtain ⟨b1, b2, b3, b4, b5⟩ := brOk_iff.1 (hvV ▸ vbOk k1 hxV)
  obtain ⟨w2, w3, w4⟩ := brW_iff.1 (hvV ▸ vbW g1 hxV)
  obtain ⟨a0, a1⟩ := hgtO_iff.1 b3
  obtain ⟨d0, d1⟩ := hgtO_iff.1 b4
  have ra := rowT_len hr v.a
  have rd := rowT_len hr v.d
  refine ziT (by simp only [Bz, Sx.Cont.n, zUn]; exact ⟨by omega, trivial⟩) (ziT rfl (ziT (by simp only [Bz, Sx.Cont.n, zUn]; omega) ⟨(x, 0), Nat.zero_le _, ⟨(by repeat' (first | exact True.intro | exact rfl | refine ⟨?_, ?_⟩)), ?_, (by repeat' (first | exact True.intro | exact rfl | refine ⟨?_, ?_⟩)), rfl, rfl, trivial⟩, fun y y1 y2 => ?_⟩))
  ·show lkP R V x ++ R.row _ = lkP R V x ++ R.row (vbN V x : Int) ++ []
   rw [hN, List.append_nil]; rfl
  obtain ⟨y0, q⟩ := y
  obtain rfl : y0 = x := y2
  replace y1 : q ≤ vbN V y0 := y1
  have hm : (iOf (y0, q).2).toNat = q := by simp only [zUn, ztN]
  have hm2 : (iOf (y0, q).snd) = (q : Int) := rfl
  rw [hm]
  dsimp only
  have lq := lkQ_len hr k hxV q
  refine Sx.if_both (fun e => ?_) (fun e => ?_)
  ·simp only [Bz, Sx.Cont.n, zUn] at e
   have hq : q < v.k.length := by omega
   have hbq : q.blt v.k.length = true := by rw [Nat.blt_eq]; exact hq
   have w5 : i64.wrap (iAdd (iOf q) 1) = iOf (q + 1) := by simp only [zUn]; rw [IntKind.wrap_i64]; omega
   rw [hbq, w5]
   refine ziT (by simp only [Bz, Sx.Cont.n, zUn]; exact ⟨by omega, trivial⟩) (ziT rfl (ziT (by rw [inUs_atT w2 hq, Bool.and_true, Nat.ble_eq]; omega) ⟨(y0, q + 1), (show q + 1 ≤ vbN V y0 by omega), rfl, (by simp only [zUn]; omega), (by repeat' (first | exact True.intro | exact rfl | refine ⟨?_, ?_⟩)), ?_, (by repeat' (first | exact True.intro | exact rfl | refine ⟨?_, ?_⟩)), rfl, rfl, trivial⟩))
   show lkQ R V y0 q ++ u64B _ = lkQ R V y0 (q + 1)
   rw [lkQ_snoc R (by omega), hvV]
  ·simp only [Bz, Sx.Cont.n, zUn] at e
   obtain rfl : q = vbN V y0 := by omega
   rw [show iLt v.a 0 = false by simp only [Bz, Sx.Cont.n]; omega, show iLt v.d 0 = false by simp only [Bz, Sx.Cont.n]; omega]
   repeat rw [cond_false]
   refine ziT (by simp only [Bz, Sx.Cont.n, zUn]; omega) (ziT (by simp only [Bz, Sx.Cont.n, zUn, zlA]; omega) (ziT (by rw [w3, Bool.and_true, Nat.ble_eq]; simp only [zUn, zlA]; omega) ⟨y0 + 1, hx, (by simp only [zUn]; omega), (by repeat' (first | exact True.intro | exact rfl | refine ⟨?_, ?_⟩)), ?_, rfl, trivial⟩))
   show lkQ R V y0 (vbN V y0) ++ R.row v.a ++ R.row v.d ++ u64B v.s = lkP R V (y0 + 1)
   rw [lkP_snoc R hxV, hvV]
 ·simp only [Bz, Sx.Cont.n, zUn] at d
  obtain rfl : x = l.length := by omega
  refine ⟨trivial, ?_, trivial⟩
  show lkP R V l.length = lkZ O R V
  unfold lkZ lkP lkB
  rw [k, ← hl, List.take_length]; rfl
theorem ok_lkbytes (I : Sx.Interp) (O : OO) (hO : O = oo) (R : OB) (hR : R = bO) : Sx.SpecOK I Try.prog 91 (pspec [.agg [.deep brD]] false (g_lkbytes O R)) := by
 refine spec_pAI (spX4_ok I O hO R hR) (by kernel_rfl) (fun ds => match ds with | [.node [.deep l]] => [⟨Nat, [1, 16, 17], [(3, 5, .ints .u8 [])], fun B j => [(3, .row B), (18, .v (.int .i64 (j : Nat)))], fun B j => [(B, .own 5 (.ints .u8 (lkP R (l.map vB) j)))], fun j => j ≤ l.length, fun j => l.length - j, 0⟩, ⟨Nat × Nat, [1, 5, 16, 17, 18, 28, 29], [(3, 5, .ints .u8 [])], fun B x => [(3, .row B), (30, .v (.int .i64 (x.2 : Nat)))], fun B x => [(B, .own 5 (.ints .u8 (lkQ R (l.map vB) x.1 x.2)))], fun x => x.2 ≤ vbN (l.map vB) x.1, fun x => vbN (l.map vB) x.1 - x.2, .fix Prod.fst⟩] | _ => []) (fun ds => match ds with | [.node [.deep l]] => [(2, 5, .ints .u8 [])] | _ => []) Try.func91 (by kernel_rfl) (by kernel_rfl) rfl Try.ntmps91 (by decide) ?_ ?_
 ·intro ds p bs F h
  unfold g_lkbytes at h
  split at h
  ·rename_i l
   simp only [zsI, zpI] at h
   obtain ⟨_, _, rfl⟩ := h
   kernel_rfl
  ·cases h
 ·intro ds bs F hl h
  unfold g_lkbytes at h
  split at h
  ·rename_i l
   simp only [zsI, zpI, zaT] at h
   obtain ⟨⟨g0, g1⟩, _, rfl⟩ := h
   exact Eq.mpr (by kernel_rfl) (vc_lkbytes O R l (fo_oo O hO) hR (by first | exact g0 | (simp only [zaT]; exact g0)) (by first | exact g1 | (simp only [zaT]; exact g1)))
  ·cases h
def g_tputb (O : OO) (R : OB) (ds : List Dt) : zG := match ds with
 | [.ints b, .ints c] => some ((Nat.ble b.length 1000000) && (Nat.ble c.length 1000000), [], fun _ => ⟨[.row 2], [(2, .own 5 (.ints .u8 (b ++ R.row (c.length : Int) ++ c)))]⟩)
 | _ => none
theorem vc_tputb (O : OO) (R : OB) (b c : List Int) (F : FO O) (hr : R = bO) (h0 : (Nat.ble b.length 1000000) = true) (h1 : (Nat.ble c.length 1000000) = true) :
 If (iLe 0 (iOf (Cont.ints .u8 c).n) && iLe (iOf (Cont.ints .u8 c).n) 9223372036854775807) (If (b.length.ble 1073741824 && (R.row (iOf c.length)).length.ble 1073741824 && c.length.ble 1073741824) (True ∧ EqI (app (app b (R.row (iOf c.length))) c) (app (app b (R.row (iOf c.length))) c) ∧ True) False) False := by
 have h0' := zbL h0
 have h1' := zbL h1
 have r := rowT_len hr (iOf c.length)
 exact ziT (by simp only [Bz, Sx.Cont.n, zUn]; omega) (ziT (by simp only [zaT, Nat.ble_eq]; omega) (by repeat' (first | exact True.intro | exact rfl | refine ⟨?_, ?_⟩)))
theorem ok_tputb (I : Sx.Interp) (O : OO) (hO : O = oo) (R : OB) (hR : R = bO) : Sx.SpecOK I Try.prog 90 (pspec [.ro .u8, .ro .u8] false (g_tputb O R)) := by
 refine spec_pI (spX4_ok I O hO R hR) (by kernel_rfl) (fun _ => []) Try.func90 (by kernel_rfl) (by kernel_rfl) rfl Try.ntmps90 (by decide) ?_ ?_
 ·intro ds p bs F h
  unfold g_tputb at h
  split at h
  ·rename_i b c
   simp only [zsI, zpI] at h
   obtain ⟨_, _, rfl⟩ := h
   kernel_rfl
  ·cases h
 ·intro ds bs F hl h
  unfold g_tputb at h
  split at h
  ·rename_i b c
   simp only [zsI, zpI, zaT] at h
   obtain ⟨⟨h0, h1⟩, _, rfl⟩ := h
   exact Eq.mpr (by kernel_rfl) (vc_tputb O R b c (fo_oo O hO) hR (by first | exact h0 | (simp only [zaT]; exact h0)) (by first | exact h1 | (simp only [zaT]; exact h1)))
  ·cases h
def g_trby (O : OO) (R : OB) (ds : List Dt) : zG := match ds with
 | [.node [.ints l, .v (.bool no)]] => some ((Nat.ble l.length 1000000) && (R.nOk l) && (!no) && (iLe 0 (R.nV l)) && (iLe (R.nV l) ((R.nR l).length : Int)), [], fun _ => ⟨[.row 2], [(2, .own 5 (.ints .u8 ((R.nR l).take (R.nV l).toNat))), (0, .blk 127 [.row 3, .v (.bool false)]), (3, .ro (.ints .u8 ((R.nR l).drop (R.nV l).toNat)))]⟩)
 | _ => none
theorem vc_trby (O : OO) (R : OB) (l : List Int) (no : Bool) (F : FO O) (hr : R = bO) (h0 : (Nat.ble l.length 1000000) = true) (h1 : (R.nOk l) = true) (h2 : (!no) = true) (h3 : (iLe 0 (R.nV l)) = true) (h4 : (iLe (R.nV l) ((R.nR l).length : Int)) = true) :
 If (l.length.ble 1000000) (If (bif R.nOk l then no else true) (SV.v (Value.slice none 0 0) = SV.row 2 ∧ True ∧ False) (If ((R.nR l).length.ble 1000000 && iLe 0 (R.nV l)) (True ∧ EqI (bif bif bif R.nOk l then no else true then true else iLt (iOf (R.nR l).length) (R.nV l) then [] else List.take (R.nV l).toNat (R.nR l)) (List.take (R.nV l).toNat (R.nR l)) ∧ yB (bif bif bif R.nOk l then no else true then true else iLt (iOf (R.nR l).length) (R.nV l) then true else bif R.nOk l then no else true) = yB false ∧ EqI (bif bif bif R.nOk l then no else true then true else iLt (iOf (R.nR l).length) (R.nV l) then [] else List.drop (R.nV l).toNat (R.nR l)) (List.drop (R.nV l).toNat (R.nR l)) ∧ True) False)) False := by
 have h0' := zbL h0
 have k0 := nRl hr l
 obtain rfl : no = false := by simpa using h2
 rw [h1]
 have h4' : iLt (iOf (R.nR l).length) (R.nV l) = false := by simp only [Bz, Sx.Cont.n, zUn] at h4 ⊢; omega
 rw [h4']
 exact ziT h0 (Sx.if_false rfl (ziT (by rw [h3, Bool.and_true, Nat.ble_eq]; omega) (by repeat' (first | exact True.intro | exact rfl | refine ⟨?_, ?_⟩))))
theorem ok_trby (I : Sx.Interp) (O : OO) (hO : O = oo) (R : OB) (hR : R = bO) : Sx.SpecOK I Try.prog 55 (pspec [.obj 127 [.ro .u8, .v]] true (g_trby O R)) := by
 refine spec_pI (spX4_ok I O hO R hR) (by kernel_rfl) (fun _ => []) Try.func55 (by kernel_rfl) (by kernel_rfl) rfl Try.ntmps55 (by decide) ?_ ?_
 ·intro ds p bs F h
  unfold g_trby at h
  split at h
  ·rename_i l no
   simp only [zsI, zpI] at h
   obtain ⟨_, _, rfl⟩ := h
   kernel_rfl
  ·cases h
 ·intro ds bs F hl h
  unfold g_trby at h
  split at h
  ·rename_i l no
   simp only [zsI, zpI, zaT] at h
   obtain ⟨⟨⟨⟨⟨h0, h1⟩, h2⟩, h3⟩, h4⟩, _, rfl⟩ := h
   exact Eq.mpr (by kernel_rfl) (vc_trby O R l no (fo_oo O hO) hR (by first | exact h0 | (simp only [zaT]; exact h0)) (by first | exact h1 | (simp only [zaT]; exact h1)) (by first | exact h2 | (simp only [zaT]; exact h2)) (by first | exact h3 | (simp only [zaT]; exact h3)) (by first | exact h4 | (simp only [zaT]; exact h4)))
  ·cases h
def g_teqb (O : OO) (R : OB) (ds : List Dt) : zG := match ds with
 | [.ints l, .ints m] => some ((Nat.ble l.length 1000000) && (decide (l = m)), [], fun _ => ⟨[.v (.bool true)], []⟩)
 | _ => none
theorem vc_teqb (O : OO) (R : OB) (l m : List Int) (F : FO O) (hr : R = bO) (h0 : (Nat.ble l.length 1000000) = true) (h1 : (decide (l = m)) = true) :
 If (iBne (iOf l.length) (iOf m.length)) (yB false = yB true ∧ True ∧ True) ( (∃ (x : Nat), x ≤ l.length ∧ (yI 0 = yI (iOf x) ∧ yI (iOf l.length) = yI (iOf l.length) ∧ True) ∧ EqI l l ∧ EqI m m ∧ True) ∧ ∀ (x : Nat), x ≤ l.length → If (iLt (iOf x) (iOf (Cont.ints .u8 l).n)) (If (iLe 0 (iOf x) && (iOf x).toNat.blt l.length) (If (true && Nat.beq 1 1 && (iOf x).toNat.blt l.length) (If (iLe 0 (iOf x) && (iOf x).toNat.blt m.length) (If (true && Nat.beq 1 1 && (iOf x).toNat.blt m.length) (If (iBne (l.getD (iOf x).toNat 0) (m.getD (iOf x).toNat 0)) (yB false = yB true ∧ True ∧ True) (∃ (x' : Nat), x' ≤ l.length ∧ (nSub l.length x').succ ≤ nSub l.length x ∧ (yI (i64.wrap (iAdd (iOf x) 1)) = yI (iOf x') ∧ yI (iOf l.length) = yI (iOf l.length) ∧ True) ∧ EqI l l ∧ EqI m m ∧ True)) False) False) False) False) (yB true = yB true ∧ True ∧ True)) := by
 have h0' := zbL h0
 obtain rfl : l = m := of_decide_eq_true h1
 refine Sx.if_false (by simp only [Bz, Sx.Cont.n]) ⟨⟨0, Nat.zero_le _, (by repeat' (first | exact True.intro | exact rfl | refine ⟨?_, ?_⟩))⟩, fun x x1 => ?_⟩
 have hn : (iOf x).toNat = x := by simp only [zUn, ztN]
 rw [hn]
 refine Sx.if_both (fun d => ?_) (fun d => (by repeat' (first | exact True.intro | exact rfl | refine ⟨?_, ?_⟩)))
 simp only [Bz, Sx.Cont.n, zUn] at d
 have hx : x < l.length := by omega
 have hb : x.blt l.length = true := by rw [Nat.blt_eq]; exact hx
 have w1 : i64.wrap (iAdd (iOf x) 1) = iOf (x + 1) := by simp only [zUn]; rw [IntKind.wrap_i64]; omega
 rw [hb, w1]
 have c1 : (iLe 0 (iOf x) && true) = true := by simp only [Bz, Sx.Cont.n, zUn]; exact ⟨by omega, trivial⟩
 exact ziT c1 (ziT rfl (ziT c1 (ziT rfl (Sx.if_false (by simp only [Bz, Sx.Cont.n]) ⟨x + 1, hx, by simp only [zUn]; omega, (by repeat' (first | exact True.intro | exact rfl | refine ⟨?_, ?_⟩))⟩))))
theorem ok_teqb (I : Sx.Interp) (O : OO) (hO : O = oo) (R : OB) (hR : R = bO) : Sx.SpecOK I Try.prog 92 (pspec [.ro .u8, .ro .u8] false (g_teqb O R)) := by
 refine spec_pI (spX4_ok I O hO R hR) (by kernel_rfl) (fun ds => match ds with | [.ints l, .ints m] => [⟨Nat, [0, 1, 11, 12], [], fun B j => [(13, .v (.int .i64 (j : Nat)))], fun B j => [], fun j => j ≤ l.length, fun j => l.length - j, 0⟩] | _ => []) Try.func92 (by kernel_rfl) (by kernel_rfl) rfl Try.ntmps92 (by decide) ?_ ?_
 ·intro ds p bs F h
  unfold g_teqb at h
  split at h
  ·rename_i l m
   simp only [zsI, zpI] at h
   obtain ⟨_, _, rfl⟩ := h
   kernel_rfl
  ·cases h
 ·intro ds bs F hl h
  unfold g_teqb at h
  split at h
  ·rename_i l m
   simp only [zsI, zpI, zaT] at h
   obtain ⟨⟨h0, h1⟩, _, rfl⟩ := h
   exact Eq.mpr (by kernel_rfl) (vc_teqb O R l m (fo_oo O hO) hR (by first | exact h0 | (simp only [zaT]; exact h0)) (by first | exact h1 | (simp only [zaT]; exact h1)))
  ·cases h
def spX5 (O : OO) (R : OB) (f : FuncId) : Option Sx.Spec := match f with
 | 91 => some (pspec [.agg [.deep brD]] false (g_lkbytes O R))
 | 90 => some (pspec [.ro .u8, .ro .u8] false (g_tputb O R))
 | 55 => some (pspec [.obj 127 [.ro .u8, .v]] true (g_trby O R))
 | 92 => some (pspec [.ro .u8, .ro .u8] false (g_teqb O R))
 | f => spX4 O R f
theorem spX5_ok (I : Sx.Interp) (O : OO) (hO : O = oo) (R : OB) (hR : R = bO) : ∀ f s, spX5 O R f = some s → Sx.SpecOK I Try.prog f s := by
 intro f s h
 unfold spX5 at h
 split at h
 · cases h; exact ok_lkbytes I O hO R hR
 · cases h; exact ok_tputb I O hO R hR
 · cases h; exact ok_trby I O hO R hR
 · cases h; exact ok_teqb I O hO R hR
 ·exact spX4_ok I O hO R hR _ s h
def g_lkread (O : OO) (R : OB) (ds : List Dt) : zG := match ds with
 | [.ints b] => some ((Nat.ble b.length 1000000) && (lkIs O R b), [], fun _ => ⟨[.agg [.row 1], .v (.bool true)], [(1, .ownq 109 4 2), (2, .dpool brD ((lkOf R b).map cB) none)]⟩)
 | _ => none
theorem vc_lkread (O : OO) (R : OB) (b : List Int) (F : FO O) (hr : R = bO) (h0 : (Nat.ble b.length 1000000) = true) (h1 : (lkIs O R b) = true) :
 let T1 := SV.v (Value.agg (Array.mk [Value.slice none 0 0])) = SV.agg [SV.row 1] ∧ yB false = yB true; let T2 := yI 0 = yI 0 ∧ yI 0 = yI 0 ∧ Value.int .u64 0 = Value.int .u64 0; If
  (b.length.ble 1000000) (If (b.length.ble 1000000) ( (∃ (x : Nat), x ≤ (lkOf R b).length ∧ (yI 0 = yI (iOf x) ∧ yI (R.nV b) = yI (R.nV b) ∧ True) ∧ yB (bif R.nOk b then false else
  true) = yB false ∧ EqI (R.nR b) (lkT R (lkOf R b) x) ∧ (([] : List (List DD)) = [] ∧ List.map cB (List.take x (lkOf R b)) = []) ∧ Array.mk [Value.slice none 0 0] = Array.mk
  [Value.slice none 0 0] ∧ EqI b b ∧ True) ∧ ∀ (x : Nat), x ≤ (lkOf R b).length → If (iLt (iOf x) (R.nV b)) (If ((lkT R (lkOf R b) x).length.ble 1000000) (If (iBeq (iOf x) 4) (If
  ((List.map cB (List.take x (lkOf R b))).length.ble 1000 && lkW (List.map vB (List.map cB (List.take x (lkOf R b))))) (If (!lkOk O (List.map vB (List.map cB (List.take x (lkOf R
  b))))) (T1 ∧ True ∧ False) (If ((List.map cB (List.take x (lkOf R b))).length.ble 1000 && lkW (List.map vB (List.map cB (List.take x (lkOf R b))))) (If ((lkZ O R (List.map vB
  (List.map cB (List.take x (lkOf R b))))).length.ble 1000000 && decide (EqI (lkZ O R (List.map vB (List.map cB (List.take x (lkOf R b))))) b)) (yB true = yB true ∧ True ∧ (List.map
  cB (List.take x (lkOf R b)) = List.map cB (lkOf R b) ∧ ((none : Option Nat) = none ∨ (none : Option Nat) = none)) ∧ True) False) False)) False) (If (iLt 12 (R.nV (lkT R (lkOf R b)
  x))) (If ((List.map cB (List.take x (lkOf R b))).length.ble 1000 && lkW (List.map vB (List.map cB (List.take x (lkOf R b))))) (If (!lkOk O (List.map vB (List.map cB (List.take x
  (lkOf R b))))) (T1 ∧ True ∧ False) (If ((List.map cB (List.take x (lkOf R b))).length.ble 1000 && lkW (List.map vB (List.map cB (List.take x (lkOf R b))))) (If ((lkZ O R (List.map
  vB (List.map cB (List.take x (lkOf R b))))).length.ble 1000000 && decide (EqI (lkZ O R (List.map vB (List.map cB (List.take x (lkOf R b))))) b)) (yB true = yB true ∧ True ∧
  (List.map cB (List.take x (lkOf R b)) = List.map cB (lkOf R b) ∧ ((none : Option Nat) = none ∨ (none : Option Nat) = none)) ∧ True) False) False)) False) (∃ (x0 : Nat × Nat), x0.2 ≤
  vbN (lkOf R b) x0.1 ∧ ((yI 0 = yI (iOf x0.2) ∧ yI (R.nV b) = yI (R.nV b) ∧ yI (iOf x) = yI (iOf x) ∧ yI (R.nV (lkT R (lkOf R b) x)) = yI (R.nV (lkT R (lkOf R b) x)) ∧ yI (R.nV (lkT
  R (lkOf R b) x)) = yI (R.nV (lkT R (lkOf R b) x)) ∧ True) ∧ yB (bif R.nOk (lkT R (lkOf R b) x) then false else true) = yB false ∧ EqI (R.nR (lkT R (lkOf R b) x)) (lkI R (lkOf R b)
  x0.1 x0.2) ∧ T2 ∧ EqI [] (vbK (lkOf R b) x0.1 x0.2) ∧ (List.map cB (List.take x (lkOf R b)) = List.map cB (List.take x (lkOf R b)) ∧ ((none : Option Nat) = none ∨ (none : Option
  Nat) = none)) ∧ Array.mk [Value.slice none 0 0] = Array.mk [Value.slice none 0 0] ∧ EqI b b ∧ True) ∧ ∀ (x_1 : Nat × Nat), x_1.2 ≤ vbN (lkOf R b) x_1.1 → x_1.1 = x0.1 → If (iLt (iOf
  x_1.snd) (R.nV (lkT R (lkOf R b) x))) (If ((lkI R (lkOf R b) x_1.1 x_1.2).length.ble 1000000) (If ((nMul (nAdd (vbK (lkOf R b) x_1.1 x_1.2).length 1) 8).ble 140737488355328 && (nAdd
  (vbK (lkOf R b) x_1.1 x_1.2).length 1).ble 9223372036854775807) (∃ (x' : Nat × Nat), x'.2 ≤ vbN (lkOf R b) x'.1 ∧ x'.1 = x0.1 ∧ (nSub (vbN (lkOf R b) x'.1) x'.2).succ ≤ nSub (vbN
  (lkOf R b) x_1.1) x_1.2 ∧ (yI (i64.wrap (iAdd (iOf x_1.2) 1)) = yI (iOf x'.2) ∧ yI (R.nV b) = yI (R.nV b) ∧ yI (iOf x) = yI (iOf x) ∧ yI (R.nV (lkT R (lkOf R b) x)) = yI
  (R.nV (lkT R (lkOf R b) x)) ∧ yI (R.nV (lkT R (lkOf R b) x)) = yI (R.nV (lkT R (lkOf R b) x)) ∧ True) ∧ yB (u64N (lkI R (lkOf R b) x_1.1 x_1.2) false) = yB false ∧ EqI (u64R (lkI R
  (lkOf R b) x_1.1 x_1.2) false) (lkI R (lkOf R b) x'.1 x'.2) ∧ T2 ∧ EqI (app (vbK (lkOf R b) x_1.1 x_1.2) [u64V R (lkI R (lkOf R b) x_1.1 x_1.2) false]) (vbK (lkOf R b) x'.1 x'.2) ∧
  (List.map cB (List.take x (lkOf R b)) = List.map cB (List.take x (lkOf R b)) ∧ ((none : Option Nat) = none ∨ (none : Option Nat) = none)) ∧ Array.mk [Value.slice none 0 0] =
  Array.mk [Value.slice none 0 0] ∧ EqI b b ∧ True) False) False) (If ((lkI R (lkOf R b) x_1.1 x_1.2).length.ble 1000000) (If ((R.nR (lkI R (lkOf R b) x_1.1 x_1.2)).length.ble
  1000000) (If ((R.nR (R.nR (lkI R (lkOf R b) x_1.1 x_1.2))).length.ble 1000000) (If ((nMul (nAdd (List.map cB (List.take x (lkOf R b))).length 1) 48).ble 140737488355328 && (nAdd
  (List.map cB (List.take x (lkOf R b))).length 1).ble 9223372036854775807) (∃ (x' : Nat), x' ≤ (lkOf R b).length ∧ (nSub (lkOf R b).length x').succ ≤ nSub (lkOf R b).length x ∧ (yI
  (i64.wrap (iAdd (iOf x) 1)) = yI (iOf x') ∧ yI (R.nV b) = yI (R.nV b) ∧ True) ∧ yB (u64N (R.nR (R.nR (lkI R (lkOf R b) x_1.1 x_1.2))) (bif R.nOk (R.nR (lkI R (lkOf R b)
  x_1.1 x_1.2)) then bif R.nOk (lkI R (lkOf R b) x_1.1 x_1.2) then false else true else true)) = yB false ∧ EqI (u64R (R.nR (R.nR (lkI R (lkOf R b) x_1.1 x_1.2))) (bif R.nOk (R.nR
  (lkI R (lkOf R b) x_1.1 x_1.2)) then bif R.nOk (lkI R (lkOf R b) x_1.1 x_1.2) then false else true else true)) (lkT R (lkOf R b) x') ∧ (app (List.map cB (List.take x (lkOf R b)))
  [[DD.s (List.map (fun (x : Int) => [DD.n x]) (vbK (lkOf R b) x_1.1 x_1.2)), DD.n (R.nV (lkI R (lkOf R b) x_1.1 x_1.2)), DD.n (R.nV (R.nR (lkI R (lkOf R b) x_1.1 x_1.2))), DD.n (u64V
  R (R.nR (R.nR (lkI R (lkOf R b) x_1.1 x_1.2))) (bif R.nOk (R.nR (lkI R (lkOf R b) x_1.1 x_1.2)) then bif R.nOk (lkI R (lkOf R b) x_1.1 x_1.2) then false else true else true))]] =
  List.map cB (List.take x' (lkOf R b)) ∧ ((none : Option Nat) = none ∨ (none : Option Nat) = none)) ∧ Array.mk [Value.slice none 0 0] = Array.mk [Value.slice none 0 0] ∧ EqI b b ∧
  True) False) False) False) False)))) False) (If ((List.map cB (List.take x (lkOf R b))).length.ble 1000 && lkW (List.map vB (List.map cB (List.take x (lkOf R b))))) (If (!lkOk O
  (List.map vB (List.map cB (List.take x (lkOf R b))))) (T1 ∧ True ∧ False) (If ((List.map cB (List.take x (lkOf R b))).length.ble 1000 && lkW (List.map vB (List.map cB (List.take x
  (lkOf R b))))) (If ((lkZ O R (List.map vB (List.map cB (List.take x (lkOf R b))))).length.ble 1000000 && decide (EqI (lkZ O R (List.map vB (List.map cB (List.take x (lkOf R b)))))
  b)) (yB true = yB true ∧ True ∧ (List.map cB (List.take x (lkOf R b)) = List.map cB (lkOf R b) ∧ ((none : Option Nat) = none ∨ (none : Option Nat) = none)) ∧ True) False) False))
  False)) False) False := by
 conv => zeta
 have h0' := zbL h0
 unfold lkIs at h1
 rw [zaT, zaT] at h1
 obtain ⟨⟨k, kw⟩, kb⟩ := h1
 have kb := of_decide_eq_true kb
 obtain ⟨V, hV⟩ : ∃ V, lkOf R b = V := ⟨_, rfl⟩
 rw [hV] at k kw kb ⊢
 obtain ⟨k1, k2, k3⟩ := lkOk_iff.1 k
 obtain ⟨p1, p2, p3⟩ := num_fwd hr (n := (V.length : Int)) (by omega) (by omega) (V.flatMap (brB R))
 have kb' : R.row (V.length : Int) ++ V.flatMap (brB R) = b := kb
 rw [kb'] at p1 p2 p3
 have p3' : R.nR b = lkT R V 0 := by rw [p3]; rfl
 rw [p1, p2, p3']
 refine ziT h0 (ziT h0 ⟨⟨0, Nat.zero_le _, (by repeat' (first | exact True.intro | exact rfl | refine ⟨?_, ?_⟩)), rfl, rfl, ⟨rfl, rfl⟩, rfl, rfl, trivial⟩, fun x hx0 => ?_⟩)
 have lT := lkT_len hr k x
 refine Sx.if_both (fun d => ?_) (fun d => ?_)
 ·simp only [Bz, Sx.Cont.n, zUn] at d
  have hx : x < V.length := by omega
  have w1 : i64.wrap (iAdd (iOf x) 1) = iOf (x + 1) := by simp only [zUn]; rw [IntKind.wrap_i64]; omega
  obtain ⟨b1, b2, b3, b4, b5⟩ := brOk_iff.1 (vbOk k1 hx)
  obtain ⟨w2, w3, w4⟩ := brW_iff.1 (vbW kw hx)
  obtain ⟨a0, a1⟩ := hgtO_iff.1 b3
  obtain ⟨d0, d1⟩ := hgtO_iff.1 b4
  have hN : vbN V x ≤ 12 := b1
  obtain ⟨q1, q2, q3⟩ := num_fwd hr (n := (vbN V x : Int)) (by omega) (by omega) (lkI R V x 0)
  rw [← lkT_at R hx] at q1 q2 q3
  rw [q1, q2, q3, w1]
  refine ziT (by rw [Nat.ble_eq]; omega) (Sx.if_false (by simp only [Bz, Sx.Cont.n, zUn]; omega) (Sx.if_false (by simp only [Bz, Sx.Cont.n]; omega) ⟨(x, 0), Nat.zero_le _, ⟨(by repeat' (first | exact True.intro | exact rfl | refine ⟨?_, ?_⟩)), rfl, rfl, (by repeat' (first | exact True.intro | exact rfl | refine ⟨?_, ?_⟩)), rfl, ⟨rfl, .inl rfl⟩, rfl, rfl, trivial⟩, fun y y1 y2 => ?_⟩))
  obtain ⟨y0, q⟩ := y
  obtain rfl : y0 = x := y2
  replace y1 : q ≤ vbN V y0 := y1
  dsimp only
  have lI := lkI_len hr k hx q
  refine Sx.if_both (fun e => ?_) (fun e => ?_)
  ·simp only [Bz, Sx.Cont.n, zUn] at e
   have hq : q < vbN V y0 := by omega
   have w5 : i64.wrap (iAdd (iOf q) 1) = iOf (q + 1) := by simp only [zUn]; rw [IntKind.wrap_i64]; omega
   obtain ⟨u1, u2, u3⟩ := u64_fwd hr (inUs_atT w2 hq) (lkI R V y0 (q + 1))
   rw [← lkI_at R hq] at u1 u2 u3
   have lK : (vbK V y0 q).length ≤ 12 := by unfold vbK; rw [List.length_take]; unfold vbN at hN; omega
   rw [u1, u2, u3, w5]
   refine ziT (by rw [Nat.ble_eq]; omega) (ziT (by simp only [zUn, zaT, Nat.ble_eq]; omega) ⟨(y0, q + 1), hq, rfl, (by simp only [zUn]; omega), (by repeat' (first | exact True.intro | exact rfl | refine ⟨?_, ?_⟩)), rfl, rfl, (by repeat' (first | exact True.intro | exact rfl | refine ⟨?_, ?_⟩)), ?_, ⟨rfl, .inl rfl⟩, rfl, rfl, trivial⟩)
   exact (take_snoc' 0 hq).symm
  ·simp only [Bz, Sx.Cont.n, zUn] at e
   obtain rfl : q = vbN V y0 := by omega
   obtain ⟨r1, r2, r3⟩ := num_fwd hr a0 (by omega) (R.row (vbAt V y0).d ++ (u64B (vbAt V y0).s ++ lkT R V (y0 + 1)))
   obtain ⟨s1, s2, s3⟩ := num_fwd hr d0 (by omega) (u64B (vbAt V y0).s ++ lkT R V (y0 + 1))
   obtain ⟨t1, t2, t3⟩ := u64_fwd hr w3 (lkT R V (y0 + 1))
   rw [← lkI_end R V y0] at r1 r2 r3
   have l1 := nRl hr (lkI R V y0 (vbN V y0))
   have l2 := nRl hr (R.nR (lkI R V y0 (vbN V y0)))
   rw [r3] at l1 l2
   rw [s3] at l2
   rw [r1, r2, r3, s1, s2, s3]
   repeat rw [cond_true]
   rw [t1, t2, t3]
   refine ziT (by rw [Nat.ble_eq]; omega) (ziT (by rw [Nat.ble_eq]; omega) (ziT (by rw [Nat.ble_eq]; omega) (ziT (by simp only [zUn, List.length_map, List.length_take, zaT, Nat.ble_eq]; omega) ⟨y0 + 1, hx, (by simp only [zUn]; omega), (by repeat' (first | exact True.intro | exact rfl | refine ⟨?_, ?_⟩)), rfl, rfl, ⟨?_, .inl rfl⟩, rfl, rfl, trivial⟩)))
   rw [take_snoc' ⟨[], 0, 0, 0⟩ hx, List.map_append]
   show _ ++ [[DD.s (List.map (fun (x : Int) => [DD.n x]) ((vbAt V y0).k.take (vbAt V y0).k.length)), _, _, _]] = _ ++ [cB (vbAt V y0)]
   rw [List.take_length]; rfl
 ·simp only [Bz, Sx.Cont.n, zUn] at d
  obtain rfl : x = V.length := by omega
  rw [List.take_length, vB_cBs, k, kw]
  have hz : lkZ O R V = b := by unfold lkZ; rw [k]; exact kb
  rw [hz]
  have c : ((List.map cB V).length.ble 1000 && true) = true := by rw [Bool.and_true, Nat.ble_eq, List.length_map]; omega
  exact ziT c (Sx.if_false rfl (ziT c (ziT (by rw [zaT]; exact ⟨h0, decide_eq_true rfl⟩) ⟨rfl, trivial, ⟨rfl, .inl rfl⟩, trivial⟩)))
theorem ok_lkread (I : Sx.Interp) (O : OO) (hO : O = oo) (R : OB) (hR : R = bO) : Sx.SpecOK I Try.prog 54 (pspec [.ro .u8] true (g_lkread O R)) := by
 refine spec_pI (spX5_ok I O hO R hR) (by kernel_rfl) (fun ds => match ds with | [.ints b] => [⟨Nat, [0, 2, 6], [(100004, 5, .ints .u8 []), (100005, 109, .structs [.u64, .i64, .i64, .u64] []), (1000100005, 109, .structs [.u64, .i64, .i64, .u64] [])], fun B x => [(4, .ptr 256 0), (5, .ptr 384 0), (7, .v (.int .i64 (x : Nat)))], fun B x => [(256, .blk 127 [.row B, .v (.bool false)]), (B, .ro (.ints .u8 (lkT R (lkOf R b) x))), (384, .blk 104 [.row (B + 1)]), (B + 1, .ownq 109 4 (B + 2)), (B + 2, .dpool brD (((lkOf R b).take x).map cB) none)], fun j => j ≤ (lkOf R b).length, fun j => (lkOf R b).length - j, 0⟩, ⟨Nat × Nat, [0, 2, 5, 6, 7, 9, 27], [(100004, 5, .ints .u8 []), (100008, 89, .ints .u64 [])], fun B x => [(4, .ptr 256 0), (8, .ptr 902 0), (28, .v (.int .i64 (x.2 : Nat)))], fun B x => [(256, .blk 127 [.row B, .v (.bool false)]), (B, .ro (.ints .u8 (lkI R (lkOf R b) x.1 x.2))), (902, .blk 109 [.row (B + 1), .v (.int .i64 0), .v (.int .i64 0), .v (.int .u64 0)]), (B + 1, .own 89 (.ints .u64 (vbK (lkOf R b) x.1 x.2)))], fun x => x.2 ≤ vbN (lkOf R b) x.1, fun x => vbN (lkOf R b) x.1 - x.2, .fix Prod.fst⟩] | _ => []) Try.func54 (by kernel_rfl) (by kernel_rfl) rfl Try.ntmps54 (by decide) ?_ ?_
 ·intro ds p bs F h
  unfold g_lkread at h
  split at h
  ·rename_i b
   simp only [zsI, zpI] at h
   obtain ⟨_, _, rfl⟩ := h
   kernel_rfl
  ·cases h
 ·intro ds bs F hl h
  unfold g_lkread at h
  split at h
  ·rename_i b
   simp only [zsI, zpI, zaT] at h
   obtain ⟨⟨h0, h1⟩, _, rfl⟩ := h
   exact Eq.mpr (by kernel_rfl) (vc_lkread O R b (fo_oo O hO) hR (by first | exact h0 | (simp only [zaT]; exact h0)) (by first | exact h1 | (simp only [zaT]; exact h1)))
  ·cases h
def spX6 (O : OO) (R : OB) (f : FuncId) : Option Sx.Spec := match f with
 | 54 => some (pspec [.ro .u8] true (g_lkread O R))
 | f => spX5 O R f
theorem spX6_ok (I : Sx.Interp) (O : OO) (hO : O = oo) (R : OB) (hR : R = bO) : ∀ f s, spX6 O R f = some s → Sx.SpecOK I Try.prog f s := by
 intro f s h
 unfold spX6 at h
 split at h
 · cases h; exact ok_lkread I O hO R hR
 ·exact spX5_ok I O hO R hR _ s h
end Go.Proofs.Ytaohpdhhbnempaa
