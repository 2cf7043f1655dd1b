/- Transactions that are the same are told to be; which are small: the walks, by the symbolic machine (printed by genTx4.py; VCs by VcTool). -/
import Derived.Test.YtaohpdhhbnempaaTx3
import Derived.Test.YtaohpdhhbnempaaTs
namespace Go.Proofs.Ytaohpdhhbnempaa
open Go.RowKit Go.Lib Ckp Cfd Cpd Sx
open IntKind (i64 u64 u8 i32 u32)
set_option linter.unusedVariables false
set_option linter.unusedSimpArgs false
set_option maxRecDepth 1000000
set_option maxHeartbeats 4000000

def g_teqs (O : OO) (R : OB) (ds : List Dt) : zG := match ds with
 | [.structs l, .structs m] => some ((Nat.ble l.length 1000) && (decide (l = m)), [], fun _ => ⟨[.v (.bool true)], []⟩)
 | _ => none
theorem vc_teqs (O : OO) (R : OB) (l m : List (List Int)) (F : FO O) (hr : R = bO) (h0 : (Nat.ble l.length 1000) = true) (h1 : (decide (l = m)) = true) :
 If (iBne (iOf l.length) (iOf m.length)) (yB false = yB true ∧ True ∧ True) ( (∃ (x : Nat), x ≤ l.length ∧ (yI 0 = yI (iOf x) ∧ yI (iOf l.length) = yI (iOf l.length) ∧ True) ∧ Cont.structs [.u64, .u64] l = Cont.structs [.u64, .u64] l ∧ Cont.structs [.u64, .u64] m = Cont.structs [.u64, .u64] m ∧ True) ∧ ∀ (x : Nat), x ≤ l.length → If (iLt (iOf x) (iOf (Cont.structs [.u64, .u64] l).n)) (If (iLe 0 (iOf x) && (iOf x).toNat.blt l.length) (If (true && Nat.beq 2 2 && (iOf x).toNat.blt l.length) (If (iLe 0 (iOf x) && (iOf x).toNat.blt m.length) (If (true && Nat.beq 2 2 && (iOf x).toNat.blt m.length) (If (!eqv (Array.mk [Value.int .u64 ((l.getD (iOf x).toNat []).getD 0 0), Value.int .u64 ((l.getD (iOf x).toNat []).getD 1 0)]) (Array.mk [Value.int .u64 ((m.getD (iOf x).toNat []).getD 0 0), Value.int .u64 ((m.getD (iOf x).toNat []).getD 1 0)])) (yB false = yB true ∧ True ∧ True) (∃ (x' : Nat), x' ≤ l.length ∧ (nSub l.length x').succ ≤ nSub l.length x ∧ (yI (i64.wrap (iAdd (iOf x) 1)) = yI (iOf x') ∧ yI (iOf l.length) = yI (iOf l.length) ∧ True) ∧ Cont.structs [.u64, .u64] l = Cont.structs [.u64, .u64] l ∧ Cont.structs [.u64, .u64] m = Cont.structs [.u64, .u64] m ∧ True)) False) False) False) False) (yB true = yB true ∧ True ∧ True)) := by
 have h0' := zbL h0
 obtain rfl : l = m := of_decide_eq_true h1
 refine Sx.if_false (by simp only [Bz, Sx.Cont.n]) ⟨⟨0, Nat.zero_le _, (by repeat' (first | exact True.intro | exact rfl | refine ⟨?_, ?_⟩))⟩, fun x x1 => ?_⟩
 have hn : (iOf x).toNat = x := by simp only [zUn, ztN]
 rw [hn]
 refine Sx.if_both (fun d => ?_) (fun d => (by repeat' (first | exact True.intro | exact rfl | refine ⟨?_, ?_⟩)))
 simp only [Bz, Sx.Cont.n, zUn] at d
 have hx : x < l.length := by omega
 have hb : x.blt l.length = true := by rw [Nat.blt_eq]; exact hx
 have w1 : i64.wrap (iAdd (iOf x) 1) = iOf (x + 1) := by simp only [zUn]; rw [IntKind.wrap_i64]; omega
 have c1 : (iLe 0 (iOf x) && true) = true := by simp only [Bz, Sx.Cont.n, zUn]; exact ⟨by omega, trivial⟩
 rw [hb, w1]
 exact ziT c1 (ziT rfl (ziT c1 (ziT rfl (Sx.if_false (by rw [eqv_intsT _ rfl]; rfl) ⟨x + 1, hx, by simp only [zUn]; omega, (by repeat' (first | exact True.intro | exact rfl | refine ⟨?_, ?_⟩))⟩))))
theorem ok_teqs (I : Sx.Interp) (O : OO) (hO : O = oo) (R : OB) (hR : R = bO) : Sx.SpecOK I Try.prog 57 (pspec [.roS [.u64, .u64], .roS [.u64, .u64]] false (g_teqs O R)) := by
 refine spec_pI (spZt6_ok I O hO R hR) (by kernel_rfl) (fun ds => match ds with | [.structs l, .structs m] => [⟨Nat, [0, 1, 11, 12], [], fun B j => [(13, .v (.int .i64 (j : Nat)))], fun B j => [], fun j => j ≤ l.length, fun j => l.length - j, 0⟩] | _ => []) Try.func57 (by kernel_rfl) (by kernel_rfl) rfl Try.ntmps57 (by decide) ?_ ?_
 ·intro ds p bs F h
  unfold g_teqs at h
  split at h
  ·rename_i l m
   simp only [zsI, zpI] at h
   obtain ⟨_, _, rfl⟩ := h
   kernel_rfl
  ·cases h
 ·intro ds bs F hl h
  unfold g_teqs at h
  split at h
  ·rename_i l m
   simp only [zsI, zpI, zaT] at h
   obtain ⟨⟨h0, h1⟩, _, rfl⟩ := h
   exact Eq.mpr (by kernel_rfl) (vc_teqs O R l m (fo_oo O hO) hR (by first | exact h0 | (simp only [zaT]; exact h0)) (by first | exact h1 | (simp only [zaT]; exact h1)))
  ·cases h
def g_teqp (O : OO) (R : OB) (ds : List Dt) : zG := match ds with
 | [.ints l, .ints m] => some ((Nat.ble l.length 1000) && (decide (l = m)), [], fun _ => ⟨[.v (.bool true)], []⟩)
 | _ => none
theorem vc_teqp (O : OO) (R : OB) (l m : List Int) (F : FO O) (hr : R = bO) (h0 : (Nat.ble l.length 1000) = true) (h1 : (decide (l = m)) = true) :
 If (iBne (iOf l.length) (iOf m.length)) (yB false = yB true ∧ True ∧ True) ( (∃ (x : Nat), x ≤ l.length ∧ (yI 0 = yI (iOf x) ∧ yI (iOf l.length) = yI (iOf l.length) ∧ True) ∧ EqI l l ∧ EqI m m ∧ True) ∧ ∀ (x : Nat), x ≤ l.length → If (iLt (iOf x) (iOf (Cont.ints .u64 l).n)) (If (iLe 0 (iOf x) && (iOf x).toNat.blt l.length) (If (true && Nat.beq 1 1 && (iOf x).toNat.blt l.length) (If (iLe 0 (iOf x) && (iOf x).toNat.blt m.length) (If (true && Nat.beq 1 1 && (iOf x).toNat.blt m.length) (If (iBne (l.getD (iOf x).toNat 0) (m.getD (iOf x).toNat 0)) (yB false = yB true ∧ True ∧ True) (∃ (x' : Nat), x' ≤ l.length ∧ (nSub l.length x').succ ≤ nSub l.length x ∧ (yI (i64.wrap (iAdd (iOf x) 1)) = yI (iOf x') ∧ yI (iOf l.length) = yI (iOf l.length) ∧ True) ∧ EqI l l ∧ EqI m m ∧ True)) False) False) False) False) (yB true = yB true ∧ True ∧ True)) := by
 have h0' := zbL h0
 obtain rfl : l = m := of_decide_eq_true h1
 refine Sx.if_false (by simp only [Bz, Sx.Cont.n]) ⟨⟨0, Nat.zero_le _, (by repeat' (first | exact True.intro | exact rfl | refine ⟨?_, ?_⟩))⟩, fun x x1 => ?_⟩
 have hn : (iOf x).toNat = x := by simp only [zUn, ztN]
 rw [hn]
 refine Sx.if_both (fun d => ?_) (fun d => (by repeat' (first | exact True.intro | exact rfl | refine ⟨?_, ?_⟩)))
 simp only [Bz, Sx.Cont.n, zUn] at d
 have hx : x < l.length := by omega
 have hb : x.blt l.length = true := by rw [Nat.blt_eq]; exact hx
 have w1 : i64.wrap (iAdd (iOf x) 1) = iOf (x + 1) := by simp only [zUn]; rw [IntKind.wrap_i64]; omega
 have c1 : (iLe 0 (iOf x) && true) = true := by simp only [Bz, Sx.Cont.n, zUn]; exact ⟨by omega, trivial⟩
 rw [hb, w1]
 exact ziT c1 (ziT rfl (ziT c1 (ziT rfl (Sx.if_false (by simp only [Bz, Sx.Cont.n]) ⟨x + 1, hx, by simp only [zUn]; omega, (by repeat' (first | exact True.intro | exact rfl | refine ⟨?_, ?_⟩))⟩))))
theorem ok_teqp (I : Sx.Interp) (O : OO) (hO : O = oo) (R : OB) (hR : R = bO) : Sx.SpecOK I Try.prog 59 (pspec [.ro .u64, .ro .u64] false (g_teqp O R)) := by
 refine spec_pI (spZt6_ok I O hO R hR) (by kernel_rfl) (fun ds => match ds with | [.ints l, .ints m] => [⟨Nat, [0, 1, 11, 12], [], fun B j => [(13, .v (.int .i64 (j : Nat)))], fun B j => [], fun j => j ≤ l.length, fun j => l.length - j, 0⟩] | _ => []) Try.func59 (by kernel_rfl) (by kernel_rfl) rfl Try.ntmps59 (by decide) ?_ ?_
 ·intro ds p bs F h
  unfold g_teqp at h
  split at h
  ·rename_i l m
   simp only [zsI, zpI] at h
   obtain ⟨_, _, rfl⟩ := h
   kernel_rfl
  ·cases h
 ·intro ds bs F hl h
  unfold g_teqp at h
  split at h
  ·rename_i l m
   simp only [zsI, zpI, zaT] at h
   obtain ⟨⟨h0, h1⟩, _, rfl⟩ := h
   exact Eq.mpr (by kernel_rfl) (vc_teqp O R l m (fo_oo O hO) hR (by first | exact h0 | (simp only [zaT]; exact h0)) (by first | exact h1 | (simp only [zaT]; exact h1)))
  ·cases h
def spV0 (O : OO) (R : OB) (f : FuncId) : Option Sx.Spec := match f with
 | 57 => some (pspec [.roS [.u64, .u64], .roS [.u64, .u64]] false (g_teqs O R))
 | 59 => some (pspec [.ro .u64, .ro .u64] false (g_teqp O R))
 | f => spZt6 O R f
theorem spV0_ok (I : Sx.Interp) (O : OO) (hO : O = oo) (R : OB) (hR : R = bO) : ∀ f s, spV0 O R f = some s → Sx.SpecOK I Try.prog f s := by
 intro f s h
 unfold spV0 at h
 split at h
 · cases h; exact ok_teqs I O hO R hR
 · cases h; exact ok_teqp I O hO R hR
 ·exact spZt6_ok I O hO R hR _ s h
def g_tsm1 (O : OO) (R : OB) (ds : List Dt) : zG := match ds with
 | [a, c] => match inDt a, inDt c with
  | some v, some w => some (Nat.ble v.g.length 1000 && decide (v.h = w.h) && iBeq v.n w.n && iBeq v.b w.b && decide (v.g = w.g) && iBeq v.s w.s, [], fun _ => ⟨[.v (.bool true)], []⟩)
  | _, _ => none
 | _ => none
theorem vc_tsm1 (O : OO) (R : OB) (x0 x1 x2 x3 x4 x5 x6 x7 x8 x9 x10 x11 x12 x13 x14 x15 x16 x17 x18 x19 x20 x21 x22 x23 x24 x25 x26 x27 x28 x29 x30 x31 n b : Int) (g : List (List Int)) (s : Int) (F : FO O) (hr : R = bO) (h0 : (Nat.ble g.length 1000) = true) :
 let T1 := Array.mk [Value.int .u8 x0, Value.int .u8 x1, Value.int .u8 x2, Value.int .u8 x3, Value.int .u8 x4, Value.int .u8 x5, Value.int .u8 x6, Value.int .u8 x7, Value.int .u8 x8, Value.int .u8 x9, Value.int .u8 x10, Value.int .u8 x11, Value.int .u8 x12, Value.int .u8 x13, Value.int .u8 x14, Value.int .u8 x15, Value.int .u8 x16, Value.int .u8 x17, Value.int .u8 x18, Value.int .u8 x19, Value.int .u8 x20, Value.int .u8 x21, Value.int .u8 x22, Value.int .u8 x23, Value.int .u8 x24, Value.int .u8 x25, Value.int .u8 x26, Value.int .u8 x27, Value.int .u8 x28, Value.int .u8 x29, Value.int .u8 x30, Value.int .u8 x31, yI n];
  If (eqv T1 T1) (If (iBeq b b) (If (iBeq s s) (If (g.length.ble 1000 && decide (EqII g g)) (yB true = yB true ∧ True ∧ True) False) (yB false = yB true ∧ True ∧ True)) (yB false = yB
  true ∧ True ∧ True)) (yB false = yB true ∧ True ∧ True) := by
 conv => zeta
 exact ziT (eqv_intsT _ rfl) (ziT (iBeq_r _) (ziT (iBeq_r _) (ziT (and_t h0 (decide_eq_true rfl)) (by repeat' (first | exact True.intro | exact rfl | refine ⟨?_, ?_⟩)))))
theorem ok_tsm1 (I : Sx.Interp) (O : OO) (hO : O = oo) (R : OB) (hR : R = bO) : Sx.SpecOK I Try.prog 56 (pspec [.agg [.v, .v, .v, .v, .v, .v, .v, .v, .v, .v, .v, .v, .v, .v, .v, .v, .v, .v, .v, .v, .v, .v, .v, .v, .v, .v, .v, .v, .v, .v, .v, .v, .v, .v, .roS [.u64, .u64], .v], .agg [.v, .v, .v, .v, .v, .v, .v, .v, .v, .v, .v, .v, .v, .v, .v, .v, .v, .v, .v, .v, .v, .v, .v, .v, .v, .v, .v, .v, .v, .v, .v, .v, .v, .v, .roS [.u64, .u64], .v]] false (g_tsm1 O R)) := by
 refine spec_pI (spV0_ok I O hO R hR) (by kernel_rfl) (fun _ => []) Try.func56 (by kernel_rfl) (by kernel_rfl) rfl Try.ntmps56 (by decide) ?_ ?_
 ·intro ds p bs F h
  unfold g_tsm1 at h
  split at h
  ·split at h
   ·simp only [zsI, zpI] at h
    obtain ⟨_, _, rfl⟩ := h
    kernel_rfl
   ·cases h
  ·cases h
 ·intro ds bs F hl h
  unfold g_tsm1 at h
  split at h
  ·split at h
   ·rename_i a c v w ha hc
    simp only [zsI, zpI, zaT] at h
    obtain ⟨⟨⟨⟨⟨⟨h0, h1⟩, h2⟩, h3⟩, h4⟩, h5⟩, _, rfl⟩ := h
    have e : v = w := by
     obtain ⟨vh, vn, vb, vg, vs⟩ := v
     obtain ⟨wh, wn, wb, wg, ws⟩ := w
     simp only [Bz, Sx.Cont.n] at h2 h3 h5
     have e1 := of_decide_eq_true h1
     have e4 := of_decide_eq_true h4
     dsimp only at e1 e4 h2 h3 h5
     rw [e1, e4, h2, h3, h5]
    subst e
    obtain ⟨l1, d1⟩ := inDt_spec ha
    obtain ⟨_, d2⟩ := inDt_spec hc
    obtain ⟨x0, x1, x2, x3, x4, x5, x6, x7, x8, x9, x10, x11, x12, x13, x14, x15, x16, x17, x18, x19, x20, x21, x22, x23, x24, x25, x26, x27, x28, x29, x30, x31, e32⟩ := list32 l1
    rw [e32] at d1 d2
    subst d1
    subst d2
    exact Eq.mpr (by kernel_rfl) (vc_tsm1 O R x0 x1 x2 x3 x4 x5 x6 x7 x8 x9 x10 x11 x12 x13 x14 x15 x16 x17 x18 x19 x20 x21 x22 x23 x24 x25 x26 x27 x28 x29 x30 x31 v.n v.b v.g v.s (fo_oo O hO) hR h0)
   ·cases h
  ·cases h
def g_tsm2 (O : OO) (R : OB) (ds : List Dt) : zG := match ds with
 | [.node [.ints k, .v (.int .i64 a), .v (.int .i64 d), .v (.int .u64 s)], .node [.ints l, .v (.int .i64 c), .v (.int .i64 e), .v (.int .u64 t)]] => some ((Nat.ble k.length 1000) && (decide (k = l)) && (iBeq a c) && (iBeq d e) && (iBeq s t), [], fun _ => ⟨[.v (.bool true)], []⟩)
 | _ => none
theorem vc_tsm2 (O : OO) (R : OB) (k : List Int) (a d s : Int) (l : List Int) (c e t : Int) (F : FO O) (hr : R = bO) (h0 : (Nat.ble k.length 1000) = true) (h1 : (decide (k = l)) = true) (h2 : (iBeq a c) = true) (h3 : (iBeq d e) = true) (h4 : (iBeq s t) = true) :
 If (iBeq a c) (If (iBeq d e) (If (iBeq s t) (If (k.length.ble 1000 && decide (EqI k l)) (yB true = yB true ∧ True ∧ True) False) (yB false = yB true ∧ True ∧ True)) (yB false = yB true ∧ True ∧ True)) (yB false = yB true ∧ True ∧ True) := by
 simp only [Bz, Sx.Cont.n] at h2 h3 h4
 obtain rfl := h2
 obtain rfl := h3
 obtain rfl := h4
 obtain rfl : k = l := of_decide_eq_true h1
 exact ziT (by simp only [Bz, Sx.Cont.n]) (ziT (by simp only [Bz, Sx.Cont.n]) (ziT (by simp only [Bz, Sx.Cont.n]) (ziT (by rw [h0, Bool.true_and]; exact decide_eq_true rfl) (by repeat' (first | exact True.intro | exact rfl | refine ⟨?_, ?_⟩)))))
theorem ok_tsm2 (I : Sx.Interp) (O : OO) (hO : O = oo) (R : OB) (hR : R = bO) : Sx.SpecOK I Try.prog 58 (pspec [.agg [.ro .u64, .v, .v, .v], .agg [.ro .u64, .v, .v, .v]] false (g_tsm2 O R)) := by
 refine spec_pI (spV0_ok I O hO R hR) (by kernel_rfl) (fun _ => []) Try.func58 (by kernel_rfl) (by kernel_rfl) rfl Try.ntmps58 (by decide) ?_ ?_
 ·intro ds p bs F h
  unfold g_tsm2 at h
  split at h
  ·rename_i k a d s l c e t
   simp only [zsI, zpI] at h
   obtain ⟨_, _, rfl⟩ := h
   kernel_rfl
  ·cases h
 ·intro ds bs F hl h
  unfold g_tsm2 at h
  split at h
  ·rename_i k a d s l c e t
   simp only [zsI, zpI, zaT] at h
   obtain ⟨⟨⟨⟨⟨h0, h1⟩, h2⟩, h3⟩, h4⟩, _, rfl⟩ := h
   exact Eq.mpr (by kernel_rfl) (vc_tsm2 O R k a d s l c e t (fo_oo O hO) hR (by first | exact h0 | (simp only [zaT]; exact h0)) (by first | exact h1 | (simp only [zaT]; exact h1)) (by first | exact h2 | (simp only [zaT]; exact h2)) (by first | exact h3 | (simp only [zaT]; exact h3)) (by first | exact h4 | (simp only [zaT]; exact h4)))
  ·cases h
def spV1 (O : OO) (R : OB) (f : FuncId) : Option Sx.Spec := match f with
 | 56 => some (pspec [.agg [.v, .v, .v, .v, .v, .v, .v, .v, .v, .v, .v, .v, .v, .v, .v, .v, .v, .v, .v, .v, .v, .v, .v, .v, .v, .v, .v, .v, .v, .v, .v, .v, .v, .v, .roS [.u64, .u64], .v], .agg [.v, .v, .v, .v, .v, .v, .v, .v, .v, .v, .v, .v, .v, .v, .v, .v, .v, .v, .v, .v, .v, .v, .v, .v, .v, .v, .v, .v, .v, .v, .v, .v, .v, .v, .roS [.u64, .u64], .v]] false (g_tsm1 O R))
 | 58 => some (pspec [.agg [.ro .u64, .v, .v, .v], .agg [.ro .u64, .v, .v, .v]] false (g_tsm2 O R))
 | f => spV0 O R f
theorem spV1_ok (I : Sx.Interp) (O : OO) (hO : O = oo) (R : OB) (hR : R = bO) : ∀ f s, spV1 O R f = some s → Sx.SpecOK I Try.prog f s := by
 intro f s h
 unfold spV1 at h
 split at h
 · cases h; exact ok_tsm1 I O hO R hR
 · cases h; exact ok_tsm2 I O hO R hR
 ·exact spV0_ok I O hO R hR _ s h
def g_tefb (O : OO) (R : OB) (ds : List Dt) : zG := match ds with
 | [.deep l, .deep m, .node []] => some ((Nat.ble l.length 1000) && (lkW (l.map vB)) && (decide (l.map vB = m.map vB)), [], fun _ => ⟨[.v (.bool true)], []⟩)
 | _ => none
theorem vc_tefb (O : OO) (R : OB) (l m : List (List DD)) (F : FO O) (hr : R = bO) (h0 : (Nat.ble l.length 1000) = true) (h1 : (lkW (l.map vB)) = true) (h2 : (decide (l.map vB = m.map vB)) = true) :
 If (iBne (iOf l.length) (iOf m.length)) (yB false = yB true ∧ True ∧ True) ( (∃ (x : Nat), x ≤ l.length ∧ (yI 0 = yI (iOf x) ∧ SV.fn (Fn.func 58) [] = SV.fn (Fn.func 58) [] ∧ yI (iOf l.length) = yI (iOf l.length) ∧ True) ∧ Res.deep brD l = Res.deep brD l ∧ Res.deep brD m = Res.deep brD m ∧ True) ∧ ∀ (x : Nat), x ≤ l.length → If (iLt (iOf x) (iOf l.length)) (If (iLe 0 (iOf x) && (iOf x).toNat.blt l.length) (If (true && Nat.beq 4 4 && (iOf x).toNat.blt l.length) (If (iLe 0 (iOf x) && (iOf x).toNat.blt m.length) (If (true && Nat.beq 4 4 && (iOf x).toNat.blt m.length) (If ((List.map (fun (x : List DD) => (x.getD 0 (DD.n 0)).i) ((l.getD (iOf x).toNat []).getD 0 (DD.n 0)).l).length.ble 1000 && decide (EqI (List.map (fun (x : List DD) => (x.getD 0 (DD.n 0)).i) ((l.getD (iOf x).toNat []).getD 0 (DD.n 0)).l) (List.map (fun (x : List DD) => (x.getD 0 (DD.n 0)).i) ((m.getD (iOf x).toNat []).getD 0 (DD.n 0)).l)) && iBeq ((l.getD (iOf x).toNat []).getD 1 (DD.n 0)).i ((m.getD (iOf x).toNat []).getD 1 (DD.n 0)).i && iBeq ((l.getD (iOf x).toNat []).getD 2 (DD.n 0)).i ((m.getD (iOf x).toNat []).getD 2 (DD.n 0)).i && iBeq ((l.getD (iOf x).toNat []).getD 3 (DD.n 0)).i ((m.getD (iOf x).toNat []).getD 3 (DD.n 0)).i) (∃ (x' : Nat), x' ≤ l.length ∧ (nSub l.length x').succ ≤ nSub l.length x ∧ (yI (i64.wrap (iAdd (iOf x) 1)) = yI (iOf x') ∧ SV.fn (Fn.func 58) [] = SV.fn (Fn.func 58) [] ∧ yI (iOf l.length) = yI (iOf l.length) ∧ True) ∧ Res.deep brD l = Res.deep brD l ∧ Res.deep brD m = Res.deep brD m ∧ True) False) False) False) False) False) (yB true = yB true ∧ True ∧ True)) := by
 have h0' := zbL h0
 have hE := of_decide_eq_true h2
 have hl := map_lenT hE
 refine Sx.if_false (by rw [hl]; simp only [Bz, Sx.Cont.n]) ⟨⟨0, Nat.zero_le _, (by repeat' (first | exact True.intro | exact rfl | refine ⟨?_, ?_⟩))⟩, fun x x1 => ?_⟩
 have hn : (iOf x).toNat = x := by simp only [zUn, ztN]
 rw [hn]
 refine Sx.if_both (fun d => ?_) (fun d => (by repeat' (first | exact True.intro | exact rfl | refine ⟨?_, ?_⟩)))
 simp only [Bz, Sx.Cont.n, zUn] at d
 have hx : x < l.length := by omega
 have hb : x.blt l.length = true := by rw [Nat.blt_eq]; exact hx
 have w1 : i64.wrap (iAdd (iOf x) 1) = iOf (x + 1) := by simp only [zUn]; rw [IntKind.wrap_i64]; omega
 have c1 : (iLe 0 (iOf x) && true) = true := by simp only [Bz, Sx.Cont.n, zUn]; exact ⟨by omega, trivial⟩
 have hbm : x.blt m.length = true := by rw [Nat.blt_eq]; omega
 have ex := map_atT hE hx
 obtain ⟨w2, w3, w4⟩ := brW_iff.1 (all_atT (p := brW) h1 [] hx)
 have e0 : List.map (fun (x : List DD) => (x.getD 0 (DD.n 0)).i) ((l.getD x []).getD 0 (DD.n 0)).l = List.map (fun (x : List DD) => (x.getD 0 (DD.n 0)).i) ((m.getD x []).getD 0 (DD.n 0)).l := congrArg VB.k ex
 have e1 : ((l.getD x []).getD 1 (DD.n 0)).i = ((m.getD x []).getD 1 (DD.n 0)).i := congrArg VB.a ex
 have e2 : ((l.getD x []).getD 2 (DD.n 0)).i = ((m.getD x []).getD 2 (DD.n 0)).i := congrArg VB.d ex
 have e3 : ((l.getD x []).getD 3 (DD.n 0)).i = ((m.getD x []).getD 3 (DD.n 0)).i := congrArg VB.s ex
 have w4' : (List.map (fun (x : List DD) => (x.getD 0 (DD.n 0)).i) ((l.getD x []).getD 0 (DD.n 0)).l).length ≤ 1000 := w4
 rw [e0] at w4'
 rw [hb, hbm, w1, e0, e1, e2, e3]
 exact ziT c1 (ziT rfl (ziT c1 (ziT rfl (ziT (and_t (and_t (and_t (and_t (ble_t w4') (decide_eq_true rfl)) (iBeq_r _)) (iBeq_r _)) (iBeq_r _)) ⟨x + 1, hx, by simp only [zUn]; omega, (by repeat' (first | exact True.intro | exact rfl | refine ⟨?_, ?_⟩))⟩))))
theorem ok_tefb (I : Sx.Interp) (O : OO) (hO : O = oo) (R : OB) (hR : R = bO) : Sx.SpecOK I Try.prog 61 (pspec [.deep brD, .deep brD, .fn 58 []] false (g_tefb O R)) := by
 refine spec_pI (spV1_ok I O hO R hR) (by kernel_rfl) (fun ds => match ds with | [.deep l, .deep m, .node []] => [⟨Nat, [0, 1, 2, 15, 16], [], fun B j => [(17, .v (.int .i64 (j : Nat)))], fun B j => [], fun j => j ≤ l.length, fun j => l.length - j, 0⟩] | _ => []) Try.func61 (by kernel_rfl) (by kernel_rfl) rfl Try.ntmps61 (by decide) ?_ ?_
 ·intro ds p bs F h
  unfold g_tefb at h
  split at h
  ·rename_i l m
   simp only [zsI, zpI] at h
   obtain ⟨_, _, rfl⟩ := h
   kernel_rfl
  ·cases h
 ·intro ds bs F hl h
  unfold g_tefb at h
  split at h
  ·rename_i l m
   simp only [zsI, zpI, zaT] at h
   obtain ⟨⟨⟨h0, h1⟩, h2⟩, _, rfl⟩ := h
   exact Eq.mpr (by kernel_rfl) (vc_tefb O R l m (fo_oo O hO) hR (by first | exact h0 | (simp only [zaT]; exact h0)) (by first | exact h1 | (simp only [zaT]; exact h1)) (by first | exact h2 | (simp only [zaT]; exact h2)))
  ·cases h
def spV2 (O : OO) (R : OB) (f : FuncId) : Option Sx.Spec := match f with
 | 61 => some (pspec [.deep brD, .deep brD, .fn 58 []] false (g_tefb O R))
 | f => spV1 O R f
theorem spV2_ok (I : Sx.Interp) (O : OO) (hO : O = oo) (R : OB) (hR : R = bO) : ∀ f s, spV2 O R f = some s → Sx.SpecOK I Try.prog f s := by
 intro f s h
 unfold spV2 at h
 split at h
 · cases h; exact ok_tefb I O hO R hR
 ·exact spV1_ok I O hO R hR _ s h
def g_tsm3 (O : OO) (R : OB) (ds : List Dt) : zG := match ds with
 | [.node [.v (.int .i64 a), .deep l], .node [.v (.int .i64 c), .deep m], .node [.node []]] => some ((Nat.ble l.length 1000) && (lkW (l.map vB)) && (decide (l.map vB = m.map vB)) && (iBeq a c), [], fun _ => ⟨[.v (.bool true)], []⟩)
 | _ => none
theorem vc_tsm3 (O : OO) (R : OB) (a : Int) (l : List (List DD)) (c : Int) (m : List (List DD)) (F : FO O) (hr : R = bO) (h0 : (Nat.ble l.length 1000) = true) (h1 : (lkW (l.map vB)) = true) (h2 : (decide (l.map vB = m.map vB)) = true) (h3 : (iBeq a c) = true) :
 If (iBeq a c) (If (l.length.ble 1000 && lkW (List.map vB l) && decide (List.map vB l = List.map vB m)) (yB true = yB true ∧ True ∧ True) False) (yB false = yB true ∧ True ∧ True) := by
 simp only [Bz, Sx.Cont.n] at h3
 obtain rfl := h3
 exact ziT (by simp only [Bz, Sx.Cont.n]) (ziT (by rw [h0, h1, h2]; rfl) (by repeat' (first | exact True.intro | exact rfl | refine ⟨?_, ?_⟩)))
theorem ok_tsm3 (I : Sx.Interp) (O : OO) (hO : O = oo) (R : OB) (hR : R = bO) : Sx.SpecOK I Try.prog 60 (pspec [.agg [.v, .deep brD], .agg [.v, .deep brD], .robj 120 [.fn 58 []]] false (g_tsm3 O R)) := by
 refine spec_pI (spV2_ok I O hO R hR) (by kernel_rfl) (fun _ => []) Try.func60 (by kernel_rfl) (by kernel_rfl) rfl Try.ntmps60 (by decide) ?_ ?_
 ·intro ds p bs F h
  unfold g_tsm3 at h
  split at h
  ·rename_i a l c m
   simp only [zsI, zpI] at h
   obtain ⟨_, _, rfl⟩ := h
   kernel_rfl
  ·cases h
 ·intro ds bs F hl h
  unfold g_tsm3 at h
  split at h
  ·rename_i a l c m
   simp only [zsI, zpI, zaT] at h
   obtain ⟨⟨⟨⟨h0, h1⟩, h2⟩, h3⟩, _, rfl⟩ := h
   exact Eq.mpr (by kernel_rfl) (vc_tsm3 O R a l c m (fo_oo O hO) hR (by first | exact h0 | (simp only [zaT]; exact h0)) (by first | exact h1 | (simp only [zaT]; exact h1)) (by first | exact h2 | (simp only [zaT]; exact h2)) (by first | exact h3 | (simp only [zaT]; exact h3)))
  ·cases h
def spV3 (O : OO) (R : OB) (f : FuncId) : Option Sx.Spec := match f with
 | 60 => some (pspec [.agg [.v, .deep brD], .agg [.v, .deep brD], .robj 120 [.fn 58 []]] false (g_tsm3 O R))
 | f => spV2 O R f
theorem spV3_ok (I : Sx.Interp) (O : OO) (hO : O = oo) (R : OB) (hR : R = bO) : ∀ f s, spV3 O R f = some s → Sx.SpecOK I Try.prog f s := by
 intro f s h
 unfold spV3 at h
 split at h
 · cases h; exact ok_tsm3 I O hO R hR
 ·exact spV2_ok I O hO R hR _ s h
def g_tefi (O : OO) (R : OB) (ds : List Dt) : zG := match ds with
 | [.deep l, .deep m, .node []] => some ((Nat.ble l.length 1000) && ((l.map vI).all (inW O)) && (decide (l.map vI = m.map vI)), [], fun _ => ⟨[.v (.bool true)], []⟩)
 | _ => none
theorem vc_tefi (O : OO) (R : OB) (l m : List (List DD)) (F : FO O) (hr : R = bO) (h0 : (Nat.ble l.length 1000) = true) (h1 : ((l.map vI).all (inW O)) = true) (h2 : (decide (l.map vI = m.map vI)) = true) :
 If (iBne (iOf l.length) (iOf m.length)) (yB false = yB true ∧ True ∧ True) ( (∃ (x : Nat), x ≤ l.length ∧ (yI 0 = yI (iOf x) ∧ SV.fn (Fn.func 56) [] = SV.fn
  (Fn.func 56) [] ∧ yI (iOf l.length) = yI (iOf l.length) ∧ True) ∧ Res.deep inD l = Res.deep inD l ∧ Res.deep inD m = Res.deep inD m ∧ True) ∧ ∀ (x : Nat), let T1 := VI.mk (tabI (hF (l.getD (iOf x).toNat [])) 32) ((l.getD (iOf x).toNat []).getD 32 (DD.n 0)).i ((l.getD (iOf x).toNat []).getD 33 (DD.n 0)).i (List.map ddI ((l.getD (iOf x).toNat []).getD 34 (DD.n 0)).l) ((l.getD (iOf x).toNat []).getD 35 (DD.n 0)).i;
  let T2 := VI.mk (tabI (hF (m.getD (iOf x).toNat [])) 32) ((m.getD (iOf x).toNat []).getD 32 (DD.n 0)).i ((m.getD (iOf x).toNat []).getD 33 (DD.n 0)).i (List.map ddI ((m.getD (iOf x).toNat []).getD 34 (DD.n 0)).l) ((m.getD (iOf x).toNat []).getD 35 (DD.n 0)).i;
  x ≤ l.length → If (iLt (iOf x) (iOf l.length)) (If (iLe 0 (iOf x) && (iOf x).toNat.blt l.length) (If (true && Nat.beq 36 36 && (iOf x).toNat.blt l.length) (If (iLe 0 (iOf x) && (iOf
  x).toNat.blt m.length) (If (true && Nat.beq 36 36 && (iOf x).toNat.blt m.length) (If ((List.map ddI ((l.getD (iOf x).toNat []).getD 34 (DD.n 0)).l).length.ble 1000 && decide (EqI
  T1.h T2.h) && iBeq ((l.getD (iOf x).toNat []).getD 32 (DD.n 0)).i ((m.getD (iOf x).toNat []).getD 32 (DD.n 0)).i && iBeq ((l.getD (iOf x).toNat []).getD 33 (DD.n 0)).i ((m.getD (iOf
  x).toNat []).getD 33 (DD.n 0)).i && decide (EqII T1.g T2.g) && iBeq ((l.getD (iOf x).toNat []).getD 35 (DD.n 0)).i ((m.getD (iOf x).toNat []).getD 35 (DD.n 0)).i) (∃ (x' : Nat), x'
  ≤ l.length ∧ (nSub l.length x').succ ≤ nSub l.length x ∧ (yI (i64.wrap (iAdd (iOf x) 1)) = yI (iOf x') ∧ SV.fn (Fn.func 56) [] = SV.fn (Fn.func
  56) [] ∧ yI (iOf l.length) = yI (iOf l.length) ∧ True) ∧ Res.deep inD l = Res.deep inD l ∧ Res.deep inD m = Res.deep inD m ∧ True) False) False) False) False)
  False) (yB true = yB true ∧ True ∧ True)) := by
 conv => zeta
 have h0' := zbL h0
 have hE := of_decide_eq_true h2
 have hl := map_lenT hE
 refine Sx.if_false (by rw [hl]; simp only [Bz, Sx.Cont.n]) ⟨⟨0, Nat.zero_le _, (by repeat' (first | exact True.intro | exact rfl | refine ⟨?_, ?_⟩))⟩, fun x x1 => ?_⟩
 have hn : (iOf x).toNat = x := by simp only [zUn, ztN]
 rw [hn]
 refine Sx.if_both (fun d => ?_) (fun d => (by repeat' (first | exact True.intro | exact rfl | refine ⟨?_, ?_⟩)))
 simp only [Bz, Sx.Cont.n, zUn] at d
 have hx : x < l.length := by omega
 have hb : x.blt l.length = true := by rw [Nat.blt_eq]; exact hx
 have w1 : i64.wrap (iAdd (iOf x) 1) = iOf (x + 1) := by simp only [zUn]; rw [IntKind.wrap_i64]; omega
 have c1 : (iLe 0 (iOf x) && true) = true := by simp only [Bz, Sx.Cont.n, zUn]; exact ⟨by omega, trivial⟩
 have hbm : x.blt m.length = true := by rw [Nat.blt_eq]; omega
 have ex := map_atT hE hx
 obtain ⟨_, _, _, _, w6, _⟩ := inW_iff.1 (all_atT (p := inW O) h1 [] hx)
 have eh1 : tabI (hF (l.getD x [])) 32 = (vI (l.getD x [])).h := rfl
 have eh2 : tabI (hF (m.getD x [])) 32 = (vI (m.getD x [])).h := rfl
 have eh : tabI (hF (l.getD x [])) 32 = tabI (hF (m.getD x [])) 32 := by rw [eh1, eh2, ex]
 have e1 : ((l.getD x []).getD 32 (DD.n 0)).i = ((m.getD x []).getD 32 (DD.n 0)).i := congrArg VI.n ex
 have e2 : ((l.getD x []).getD 33 (DD.n 0)).i = ((m.getD x []).getD 33 (DD.n 0)).i := congrArg VI.b ex
 have e4 : List.map ddI ((l.getD x []).getD 34 (DD.n 0)).l = List.map ddI ((m.getD x []).getD 34 (DD.n 0)).l := congrArg VI.g ex
 have e3 : ((l.getD x []).getD 35 (DD.n 0)).i = ((m.getD x []).getD 35 (DD.n 0)).i := congrArg VI.s ex
 have w6' : (List.map ddI ((l.getD x []).getD 34 (DD.n 0)).l).length ≤ 1000 := w6
 rw [e4] at w6'
 rw [hb, hbm, w1, eh, e1, e2, e4, e3]
 exact ziT c1 (ziT rfl (ziT c1 (ziT rfl (ziT (and_t (and_t (and_t (and_t (and_t (ble_t w6') (decide_eq_true rfl)) (iBeq_r _)) (iBeq_r _)) (decide_eq_true rfl)) (iBeq_r _)) ⟨x + 1, hx, by simp only [zUn]; omega, (by repeat' (first | exact True.intro | exact rfl | refine ⟨?_, ?_⟩))⟩))))
theorem ok_tefi (I : Sx.Interp) (O : OO) (hO : O = oo) (R : OB) (hR : R = bO) : Sx.SpecOK I Try.prog 62 (pspec [.deep inD, .deep inD, .fn 56 []] false (g_tefi O R)) := by
 refine spec_pI (spV3_ok I O hO R hR) (by kernel_rfl) (fun ds => match ds with | [.deep l, .deep m, .node []] => [⟨Nat, [0, 1, 2, 15, 16], [], fun B j => [(17, .v (.int .i64 (j : Nat)))], fun B j => [], fun j => j ≤ l.length, fun j => l.length - j, 0⟩] | _ => []) Try.func62 (by kernel_rfl) (by kernel_rfl) rfl Try.ntmps62 (by decide) ?_ ?_
 ·intro ds p bs F h
  unfold g_tefi at h
  split at h
  ·rename_i l m
   simp only [zsI, zpI] at h
   obtain ⟨_, _, rfl⟩ := h
   kernel_rfl
  ·cases h
 ·intro ds bs F hl h
  unfold g_tefi at h
  split at h
  ·rename_i l m
   simp only [zsI, zpI, zaT] at h
   obtain ⟨⟨⟨h0, h1⟩, h2⟩, _, rfl⟩ := h
   exact Eq.mpr (by kernel_rfl) (vc_tefi O R l m (fo_oo O hO) hR (by first | exact h0 | (simp only [zaT]; exact h0)) (by first | exact h1 | (simp only [zaT]; exact h1)) (by first | exact h2 | (simp only [zaT]; exact h2)))
  ·cases h
def g_tefo (O : OO) (R : OB) (ds : List Dt) : zG := match ds with
 | [.deep l, .deep m, .node [.node [.node []]]] => some ((Nat.ble l.length 1000) && ((l.map vO).all ouW) && (decide (l.map vO = m.map vO)), [], fun _ => ⟨[.v (.bool true)], []⟩)
 | _ => none
theorem vc_tefo (O : OO) (R : OB) (l m : List (List DD)) (F : FO O) (hr : R = bO) (h0 : (Nat.ble l.length 1000) = true) (h1 : ((l.map vO).all ouW) = true) (h2 : (decide (l.map vO = m.map vO)) = true) :
 If (iBne (iOf l.length) (iOf m.length)) (yB false = yB true ∧ True ∧ True) ( (∃ (x : Nat), x ≤ l.length ∧ (yI 0 = yI (iOf x) ∧ SV.fn (Fn.func 60) [SV.ptr 2 0] = SV.fn (Fn.func 60) [SV.ptr 2 0] ∧ yI (iOf l.length) = yI (iOf l.length) ∧ True) ∧ Res.deep ouD l = Res.deep ouD l ∧ Res.deep ouD m = Res.deep ouD m ∧ SV.fn (Fn.func 58) [] = SV.fn (Fn.func 58) [] ∧ True) ∧ ∀ (x : Nat), x ≤ l.length → If (iLt (iOf x) (iOf l.length)) (If (iLe 0 (iOf x) && (iOf x).toNat.blt l.length) (If (true && Nat.beq 2 2 && (iOf x).toNat.blt l.length) (If (iLe 0 (iOf x) && (iOf x).toNat.blt m.length) (If (true && Nat.beq 2 2 && (iOf x).toNat.blt m.length) (If (((l.getD (iOf x).toNat []).getD 1 (DD.n 0)).l.length.ble 1000 && lkW (List.map vB ((l.getD (iOf x).toNat []).getD 1 (DD.n 0)).l) && decide (List.map vB ((l.getD (iOf x).toNat []).getD 1 (DD.n 0)).l = List.map vB ((m.getD (iOf x).toNat []).getD 1 (DD.n 0)).l) && iBeq ((l.getD (iOf x).toNat []).getD 0 (DD.n 0)).i ((m.getD (iOf x).toNat []).getD 0 (DD.n 0)).i) (∃ (x' : Nat), x' ≤ l.length ∧ (nSub l.length x').succ ≤ nSub l.length x ∧ (yI (i64.wrap (iAdd (iOf x) 1)) = yI (iOf x') ∧ SV.fn (Fn.func 60) [SV.ptr 2 0] = SV.fn (Fn.func 60) [SV.ptr 2 0] ∧ yI (iOf l.length) = yI (iOf l.length) ∧ True) ∧ Res.deep ouD l = Res.deep ouD l ∧ Res.deep ouD m = Res.deep ouD m ∧ SV.fn (Fn.func 58) [] = SV.fn (Fn.func 58) [] ∧ True) False) False) False) False) False) (yB true = yB true ∧ True ∧ True)) := by
 have h0' := zbL h0
 have hE := of_decide_eq_true h2
 have hl := map_lenT hE
 refine Sx.if_false (by rw [hl]; simp only [Bz, Sx.Cont.n]) ⟨⟨0, Nat.zero_le _, (by repeat' (first | exact True.intro | exact rfl | refine ⟨?_, ?_⟩))⟩, fun x x1 => ?_⟩
 have hn : (iOf x).toNat = x := by simp only [zUn, ztN]
 rw [hn]
 refine Sx.if_both (fun d => ?_) (fun d => (by repeat' (first | exact True.intro | exact rfl | refine ⟨?_, ?_⟩)))
 simp only [Bz, Sx.Cont.n, zUn] at d
 have hx : x < l.length := by omega
 have hb : x.blt l.length = true := by rw [Nat.blt_eq]; exact hx
 have w1 : i64.wrap (iAdd (iOf x) 1) = iOf (x + 1) := by simp only [zUn]; rw [IntKind.wrap_i64]; omega
 have c1 : (iLe 0 (iOf x) && true) = true := by simp only [Bz, Sx.Cont.n, zUn]; exact ⟨by omega, trivial⟩
 have hbm : x.blt m.length = true := by rw [Nat.blt_eq]; omega
 have ex := map_atT hE hx
 obtain ⟨w2, w3⟩ := ouW_iff.1 (all_atT (p := ouW) h1 [] hx)
 have e0 : ((l.getD x []).getD 0 (DD.n 0)).i = ((m.getD x []).getD 0 (DD.n 0)).i := congrArg VO.a ex
 have e1 : List.map vB ((l.getD x []).getD 1 (DD.n 0)).l = List.map vB ((m.getD x []).getD 1 (DD.n 0)).l := congrArg VO.b ex
 have w2' : lkW (List.map vB ((l.getD x []).getD 1 (DD.n 0)).l) = true := w2
 have w3' : (List.map vB ((l.getD x []).getD 1 (DD.n 0)).l).length ≤ 1000 := w3
 rw [List.length_map] at w3'
 rw [hb, hbm, w1, w2', e0, e1]
 exact ziT c1 (ziT rfl (ziT c1 (ziT rfl (ziT (and_t (and_t (and_t (ble_t w3') rfl) (decide_eq_true rfl)) (iBeq_r _)) ⟨x + 1, hx, by simp only [zUn]; omega, (by repeat' (first | exact True.intro | exact rfl | refine ⟨?_, ?_⟩))⟩))))
theorem ok_tefo (I : Sx.Interp) (O : OO) (hO : O = oo) (R : OB) (hR : R = bO) : Sx.SpecOK I Try.prog 63 (pspec [.deep ouD, .deep ouD, .fn 60 [.robj 120 [.fn 58 []]]] false (g_tefo O R)) := by
 refine spec_pI (spV3_ok I O hO R hR) (by kernel_rfl) (fun ds => match ds with | [.deep l, .deep m, .node [.node [.node []]]] => [⟨Nat, [0, 1, 2, 15, 16], [], fun B j => [(17, .v (.int .i64 (j : Nat)))], fun B j => [], fun j => j ≤ l.length, fun j => l.length - j, 0⟩] | _ => []) Try.func63 (by kernel_rfl) (by kernel_rfl) rfl Try.ntmps63 (by decide) ?_ ?_
 ·intro ds p bs F h
  unfold g_tefo at h
  split at h
  ·rename_i l m
   simp only [zsI, zpI] at h
   obtain ⟨_, _, rfl⟩ := h
   kernel_rfl
  ·cases h
 ·intro ds bs F hl h
  unfold g_tefo at h
  split at h
  ·rename_i l m
   simp only [zsI, zpI, zaT] at h
   obtain ⟨⟨⟨h0, h1⟩, h2⟩, _, rfl⟩ := h
   exact Eq.mpr (by kernel_rfl) (vc_tefo O R l m (fo_oo O hO) hR (by first | exact h0 | (simp only [zaT]; exact h0)) (by first | exact h1 | (simp only [zaT]; exact h1)) (by first | exact h2 | (simp only [zaT]; exact h2)))
  ·cases h
def spV4 (O : OO) (R : OB) (f : FuncId) : Option Sx.Spec := match f with
 | 62 => some (pspec [.deep inD, .deep inD, .fn 56 []] false (g_tefi O R))
 | 63 => some (pspec [.deep ouD, .deep ouD, .fn 60 [.robj 120 [.fn 58 []]]] false (g_tefo O R))
 | f => spV3 O R f
theorem spV4_ok (I : Sx.Interp) (O : OO) (hO : O = oo) (R : OB) (hR : R = bO) : ∀ f s, spV4 O R f = some s → Sx.SpecOK I Try.prog f s := by
 intro f s h
 unfold spV4 at h
 split at h
 · cases h; exact ok_tefi I O hO R hR
 · cases h; exact ok_tefo I O hO R hR
 ·exact spV3_ok I O hO R hR _ s h
def g_txsame (O : OO) (R : OB) (ds : List Dt) : zG := match ds with
 | [.node [.deep i, .deep o, .v (.int .i64 n)], .node [.deep j, .deep p, .v (.int .i64 q)]] => some ((txW O (i.map vI) (o.map vO) n) && (decide (i.map vI = j.map vI)) && (decide (o.map vO = p.map vO)) && (iBeq n q), [], fun _ => ⟨[.v (.bool true)], []⟩)
 | _ => none
theorem vc_txsame (O : OO) (R : OB) (i o : List (List DD)) (n : Int) (j p : List (List DD)) (q : Int) (F : FO O) (hr : R = bO) (h0 : (txW O (i.map vI) (o.map vO) n) = true) (h1 : (decide (i.map vI = j.map vI)) = true) (h2 : (decide (o.map vO = p.map vO)) = true) (h3 : (iBeq n q) = true) :
 If (iBeq n q) (If (i.length.ble 1000 && (List.map vI i).all (inW O) && decide (List.map vI i = List.map vI j)) (If (o.length.ble 1000 && (List.map vO o).all ouW && decide (List.map vO o = List.map vO p)) (yB true = yB true ∧ True ∧ True) False) False) (yB false = yB true ∧ True ∧ True) := by
 obtain ⟨t1, t2, t3, t4, t5⟩ := txW_iff.1 h0
 rw [List.length_map] at t4 t5
 rw [t1, t2, h1, h2]
 exact ziT h3 (ziT (by rw [Bool.and_true, Bool.and_true, Nat.ble_eq]; exact t4) (ziT (by rw [Bool.and_true, Bool.and_true, Nat.ble_eq]; exact t5) (by repeat' (first | exact True.intro | exact rfl | refine ⟨?_, ?_⟩))))
theorem ok_txsame (I : Sx.Interp) (O : OO) (hO : O = oo) (R : OB) (hR : R = bO) : Sx.SpecOK I Try.prog 28 (pspec [.agg [.deep inD, .deep ouD, .v], .agg [.deep inD, .deep ouD, .v]] false (g_txsame O R)) := by
 refine spec_pI (spV4_ok I O hO R hR) (by kernel_rfl) (fun _ => []) Try.func28 (by kernel_rfl) (by kernel_rfl) rfl Try.ntmps28 (by decide) ?_ ?_
 ·intro ds p bs F h
  unfold g_txsame at h
  split at h
  ·rename_i i o n j p q
   simp only [zsI, zpI] at h
   obtain ⟨_, _, rfl⟩ := h
   kernel_rfl
  ·cases h
 ·intro ds bs F hl h
  unfold g_txsame at h
  split at h
  ·rename_i i o n j p q
   simp only [zsI, zpI, zaT] at h
   obtain ⟨⟨⟨⟨h0, h1⟩, h2⟩, h3⟩, _, rfl⟩ := h
   exact Eq.mpr (by kernel_rfl) (vc_txsame O R i o n j p q (fo_oo O hO) hR (by first | exact h0 | (simp only [zaT]; exact h0)) (by first | exact h1 | (simp only [zaT]; exact h1)) (by first | exact h2 | (simp only [zaT]; exact h2)) (by first | exact h3 | (simp only [zaT]; exact h3)))
  ·cases h
def g_tsmall (O : OO) (R : OB) (ds : List Dt) : zG := match ds with
 | [.node [.deep i, .deep o, .v (.int .i64 n)]] => some (true, [], fun _ => ⟨[.v (.bool (smT (i.map vI) (o.map vO)))], []⟩)
 | _ => none
theorem vc_tsmall (O : OO) (R : OB) (i o : List (List DD)) (n : Int) (F : FO O) (hr : R = bO) :
 let T1 := yB false = yB (smT (List.map vI i) (List.map vO o)) ∧ True ∧ True; If (iLt 66 (iOf i.length)) T1 (If (iLt 66 (iOf o.length)) T1 ( (∃ (x : Nat), (x ≤ i.length ∧ ∀ (k :
  Nat), k.succ ≤ x → smI (vI (i.getD k [])) = true) ∧ (yI 0 = yI (iOf x) ∧ True) ∧ yI n = yI n ∧ Res.deep inD i = Res.deep inD i ∧ Res.deep ouD o = Res.deep ouD o ∧ True) ∧ ∀ (x :
  Nat), (x ≤ i.length ∧ ∀ (k : Nat), k.succ ≤ x → smI (vI (i.getD k [])) = true) → If (iLt (iOf x) (iOf i.length)) (If (iLe 0 (iOf x) && (iOf x).toNat.blt i.length) (If ((iOf
  x).toNat.blt i.length) (If ((iOf x).toNat.blt i.length) (If (true && Nat.beq 36 36 && (iOf x).toNat.blt i.length) (If (iLt 14 (iOf (Cont.structs [.u64, .u64] (List.map ddI (ddAt i
  (iOf x).toNat 34).l)).n)) T1 (∃ (x' : Nat), (x' ≤ i.length ∧ ∀ (k : Nat), k.succ ≤ x' → smI (vI (i.getD k [])) = true) ∧ (nSub i.length x').succ ≤ nSub i.length x ∧ (yI
  (i64.wrap (iAdd (iOf x) 1)) = yI (iOf x') ∧ True) ∧ yI n = yI n ∧ Res.deep inD i = Res.deep inD i ∧ Res.deep ouD o = Res.deep ouD o ∧ True)) False) False) False) False) ( (∃
  (x : Nat), (x ≤ o.length ∧ ∀ (k : Nat), k.succ ≤ x → smO (vO (o.getD k [])) = true) ∧ (yI 0 = yI (iOf x) ∧ True) ∧ yI n = yI n ∧ Res.deep inD i = Res.deep inD i ∧ Res.deep ouD o =
  Res.deep ouD o ∧ True) ∧ ∀ (x : Nat), (x ≤ o.length ∧ ∀ (k : Nat), k.succ ≤ x → smO (vO (o.getD k [])) = true) → If (iLt (iOf x) (iOf o.length)) (If (iLe 0 (iOf x) && (iOf
  x).toNat.blt o.length) (If ((iOf x).toNat.blt o.length) (If ((iOf x).toNat.blt o.length) (If (true && Nat.beq 2 2 && (iOf x).toNat.blt o.length) (If (iLt 6 (iOf (ddAt o (iOf
  x).toNat 1).l.length)) T1 (∃ (x0 : Nat × Nat), (x0.2 ≤ (List.map vB ((o.getD x0.1 []).getD 1 (DD.n 0)).l).length ∧ ∀ (k : Nat), k.succ ≤ x0.2 → smB (vbAt (List.map vB ((o.getD x0.1
  []).getD 1 (DD.n 0)).l) k) = true) ∧ ((yI 0 = yI (iOf x0.2) ∧ yI (iOf x) = yI (iOf x) ∧ True) ∧ yI n = yI n ∧ Res.deep inD i = Res.deep inD i ∧ Res.deep ouD o = Res.deep ouD o ∧
  True) ∧ ∀ (x_1 : Nat × Nat), (x_1.2 ≤ (List.map vB ((o.getD x_1.1 []).getD 1 (DD.n 0)).l).length ∧ ∀ (k : Nat), k.succ ≤ x_1.2 → smB (vbAt (List.map vB ((o.getD x_1.1 []).getD 1
  (DD.n 0)).l) k) = true) → x_1.1 = x0.1 → If (iLe 0 (iOf x) && (iOf x).toNat.blt o.length) (If ((iOf x).toNat.blt o.length) (If ((iOf x).toNat.blt o.length) (If (true && Nat.beq 2 2
  && (iOf x).toNat.blt o.length) (If (iLt (iOf x_1.snd) (iOf (ddAt o (iOf x).toNat 1).l.length)) (If (iLe 0 (iOf x) && (iOf x).toNat.blt o.length) (If ((iOf x).toNat.blt o.length) (If
  ((iOf x).toNat.blt o.length) (If (true && Nat.beq 2 2 && (iOf x).toNat.blt o.length) (If (iLe 0 (iOf x_1.snd) && (iOf x_1.2).toNat.blt (ddAt o (iOf x).toNat 1).l.length) (If ((iOf
  x_1.2).toNat.blt (ddAt o (iOf x).toNat 1).l.length) (If (true && Nat.beq 4 4 && (iOf x_1.2).toNat.blt (ddAt o (iOf x).toNat 1).l.length) (If (iLt 14 (iOf (Cont.ints .u64 (List.map
  (fun (x : List DD) => (x.getD 0 (DD.n 0)).i) (ddAt (ddAt o (iOf x).toNat 1).l (iOf x_1.snd).toNat 0).l)).n)) T1 (∃ (x' : Nat × Nat), (x'.2 ≤ (List.map vB ((o.getD x'.1 []).getD 1
  (DD.n 0)).l).length ∧ ∀ (k : Nat), k.succ ≤ x'.2 → smB (vbAt (List.map vB ((o.getD x'.1 []).getD 1 (DD.n 0)).l) k) = true) ∧ x'.1 = x0.1 ∧ (nSub (List.map vB ((o.getD x'.1 []).getD
  1 (DD.n 0)).l).length x'.2).succ ≤ nSub (List.map vB ((o.getD x_1.1 []).getD 1 (DD.n 0)).l).length x_1.2 ∧ (yI (i64.wrap (iAdd (iOf x_1.2) 1)) = yI (iOf x'.2) ∧ yI (iOf x) =
  yI (iOf x) ∧ True) ∧ yI n = yI n ∧ Res.deep inD i = Res.deep inD i ∧ Res.deep ouD o = Res.deep ouD o ∧ True)) False) False) False) False) False) False) False) (∃ (x' : Nat), (x' ≤
  o.length ∧ ∀ (k : Nat), k.succ ≤ x' → smO (vO (o.getD k [])) = true) ∧ (nSub o.length x').succ ≤ nSub o.length x ∧ (yI (i64.wrap (iAdd (iOf x) 1)) = yI (iOf x') ∧ True) ∧ yI
  n = yI n ∧ Res.deep inD i = Res.deep inD i ∧ Res.deep ouD o = Res.deep ouD o ∧ True)) False) False) False) False)) False) False) False) False) (yB true = yB (smT (List.map vI i)
  (List.map vO o)) ∧ True ∧ True)))) := by
 conv => zeta
 have nb : ∀ {P : Prop}, (smT (List.map vI i) (List.map vO o) = true → P) → ¬P → (Value.bool false = Value.bool (smT (List.map vI i) (List.map vO o)) ∧ True ∧ True) := fun h hn => ⟨by rw [Bool.eq_false_iff.2 fun e => hn (h e)], trivial, trivial⟩
 refine Sx.if_both (fun a => nb (fun h => (smT_iff.1 h).1) (by rw [List.length_map]; simp only [Bz, Sx.Cont.n, zUn] at a; omega)) (fun a => ?_)
 refine Sx.if_both (fun b => nb (fun h => (smT_iff.1 h).2.1) (by rw [List.length_map]; simp only [Bz, Sx.Cont.n, zUn] at b; omega)) (fun b => ?_)
 simp only [Bz, Sx.Cont.n, zUn] at a b
 refine ⟨⟨0, ⟨Nat.zero_le _, fun k hk => absurd hk (Nat.not_succ_le_zero _)⟩, (by repeat' (first | exact True.intro | exact rfl | refine ⟨?_, ?_⟩))⟩, fun x ⟨x1, x2⟩ => ?_⟩
 have hn : (iOf x).toNat = x := by simp only [zUn, ztN]
 rw [hn]
 refine Sx.if_both (fun d => ?_) (fun d => ?_)
 ·simp only [Bz, Sx.Cont.n, zUn] at d
  have hx : x < i.length := by omega
  have hb : x.blt i.length = true := by rw [Nat.blt_eq]; exact hx
  have w1 : i64.wrap (iAdd (iOf x) 1) = iOf (x + 1) := by simp only [zUn]; rw [IntKind.wrap_i64]; omega
  have c1 : (iLe 0 (iOf x) && true) = true := by simp only [Bz, Sx.Cont.n, zUn]; exact ⟨by omega, trivial⟩
  rw [hb, w1]
  refine ziT c1 (ziT rfl (ziT rfl (ziT rfl (Sx.if_both (fun e => ?_) (fun e => ?_)))))
  ·simp only [Bz, Sx.Cont.n, zUn] at e
   have e : 14 < (vI (i.getD x [])).g.length := by have e : (14 : Int) < (((vI (i.getD x [])).g.length : Nat) : Int) := e; omega
   exact nb (fun h => all_atT (p := smI) (smT_iff.1 h).2.2.1 [] hx) (fun h => by unfold smI at h; have := zbL h; omega)
  ·simp only [Bz, Sx.Cont.n, zUn] at e
   have e : (vI (i.getD x [])).g.length ≤ 14 := by have e : ¬ (14 : Int) < (((vI (i.getD x [])).g.length : Nat) : Int) := (by first | exact e | (intro h; exact absurd h (Int.not_lt.2 e))); omega
   refine ⟨x + 1, ⟨hx, fun k hk => ?_⟩, by simp only [zUn]; omega, (by repeat' (first | exact True.intro | exact rfl | refine ⟨?_, ?_⟩))⟩
   rcases Nat.lt_or_ge k x with h' | h'
   ·exact x2 k h'
   ·have : k = x := by omega
    rw [this]; unfold smI; rw [Nat.ble_eq]; exact e
 simp only [Bz, Sx.Cont.n, zUn] at d
 obtain rfl : x = i.length := by omega
 have hins : (List.map vI i).all smI = true := all_mkT [] fun k hk => x2 k hk
 refine ⟨⟨0, ⟨Nat.zero_le _, fun k hk => absurd hk (Nat.not_succ_le_zero _)⟩, (by repeat' (first | exact True.intro | exact rfl | refine ⟨?_, ?_⟩))⟩, fun x ⟨y1, y2⟩ => ?_⟩
 have hn : (iOf x).toNat = x := by simp only [zUn, ztN]
 rw [hn]
 refine Sx.if_both (fun d => ?_) (fun d => ?_)
 ·simp only [Bz, Sx.Cont.n, zUn] at d
  have hx : x < o.length := by omega
  have hb : x.blt o.length = true := by rw [Nat.blt_eq]; exact hx
  have w1 : i64.wrap (iAdd (iOf x) 1) = iOf (x + 1) := by simp only [zUn]; rw [IntKind.wrap_i64]; omega
  have c1 : (iLe 0 (iOf x) && true) = true := by simp only [Bz, Sx.Cont.n, zUn]; exact ⟨by omega, trivial⟩
  have hlen : ((vO (o.getD x [])).b).length = (ddAt o x 1).l.length := List.length_map _
  rw [hb, w1]
  refine ziT c1 (ziT rfl (ziT rfl (ziT rfl (Sx.if_both (fun e => ?_) (fun e => ?_)))))
  ·simp only [Bz, Sx.Cont.n, zUn] at e
   exact nb (fun h => (smO_iff.1 (all_atT (p := smO) (smT_iff.1 h).2.2.2 [] hx)).1) (by rw [hlen]; omega)
  simp only [Bz, Sx.Cont.n, zUn] at e
  refine ⟨(x, 0), ⟨Nat.zero_le _, fun k hk => absurd hk (Nat.not_succ_le_zero _)⟩, (by repeat' (first | exact True.intro | exact rfl | refine ⟨?_, ?_⟩)), fun y ⟨z1, z3⟩ z2 => ?_⟩
  obtain ⟨y0, r⟩ := y
  have z2 : y0 = x := z2
  rw [z2] at z1 z3 ⊢
  clear z2
  replace z1 : r ≤ (vO (o.getD x [])).b.length := z1
  replace z3 : ∀ k, k.succ ≤ r → smB (vbAt (vO (o.getD x [])).b k) = true := z3
  have hm : (iOf (x, r).2).toNat = r := by simp only [zUn, ztN]
  rw [hm]
  dsimp only
  refine ziT c1 (ziT rfl (ziT rfl (ziT rfl (Sx.if_both (fun f => ?_) (fun f => ?_)))))
  ·simp only [Bz, Sx.Cont.n, zUn] at f
   have hr : r < (ddAt o x 1).l.length := by omega
   have hbr : r.blt (ddAt o x 1).l.length = true := by rw [Nat.blt_eq]; exact hr
   have w5 : i64.wrap (iAdd (iOf r) 1) = iOf (r + 1) := by simp only [zUn]; rw [IntKind.wrap_i64]; omega
   have hm2 : (iOf r).toNat = r := by simp only [zUn, ztN]
   have c2 : (iLe 0 (iOf r) && true) = true := by simp only [Bz, Sx.Cont.n, zUn]; exact ⟨by omega, trivial⟩
   have ev : vbAt (vO (o.getD x [])).b r = vB ((ddAt o x 1).l.getD r []) := vbAt_map hr
   rw [hbr, w5]
   refine ziT c1 (ziT rfl (ziT rfl (ziT rfl (ziT c2 (ziT rfl (ziT rfl (Sx.if_both (fun g => ?_) (fun g => ?_))))))))
   ·simp only [Bz, Sx.Cont.n, zUn] at g
    have g : 14 < (vB ((ddAt o x 1).l.getD r [])).k.length := by have g : (14 : Int) < (((vB ((ddAt o x 1).l.getD r [])).k.length : Nat) : Int) := g; omega
    exact nb (fun h => List.all_eq_true.1 (smO_iff.1 (all_atT (p := smO) (smT_iff.1 h).2.2.2 [] hx)).2 (vbAt (vO (o.getD x [])).b r) (vbAt_mem (by omega))) (fun h => by rw [ev] at h; unfold smB at h; have := zbL h; omega)
   ·simp only [Bz, Sx.Cont.n, zUn] at g
    have g : (vB ((ddAt o x 1).l.getD r [])).k.length ≤ 14 := by have g : ¬ (14 : Int) < (((vB ((ddAt o x 1).l.getD r [])).k.length : Nat) : Int) := (by first | exact g | (intro h; exact absurd h (Int.not_lt.2 g))); omega
    refine ⟨(x, r + 1), ⟨(show r + 1 ≤ (vO (o.getD x [])).b.length by omega), fun k hk => ?_⟩, rfl, (by show (nSub (vO (o.getD x [])).b.length (r + 1)).succ ≤ nSub (vO (o.getD x [])).b.length r; simp only [zUn]; omega), (by repeat' (first | exact True.intro | exact rfl | refine ⟨?_, ?_⟩))⟩
    rcases Nat.lt_or_ge k r with h' | h'
    ·exact z3 k h'
    ·have hk : k.succ ≤ r + 1 := hk
     have : k = r := by omega
     show smB (vbAt (vO (o.getD x [])).b k) = true
     rw [this, ev]; unfold smB; rw [Nat.ble_eq]; exact g
  ·simp only [Bz, Sx.Cont.n, zUn] at f
   refine ⟨x + 1, ⟨hx, fun k hk => ?_⟩, by simp only [zUn]; omega, (by repeat' (first | exact True.intro | exact rfl | refine ⟨?_, ?_⟩))⟩
   rcases Nat.lt_or_ge k x with h' | h'
   ·exact y2 k h'
   ·have : k = x := by omega
    rw [this]
    refine smO_iff.2 ⟨by omega, List.all_eq_true.2 fun w hw => ?_⟩
    obtain ⟨q, hq, rfl⟩ := List.getElem_of_mem hw
    have := z3 q (by omega)
    unfold vbAt at this
    rw [List.getD_eq_getElem?_getD, List.getElem?_eq_getElem hq] at this
    exact this
 ·simp only [Bz, Sx.Cont.n, zUn] at d
  obtain rfl : x = o.length := by omega
  have hous : (List.map vO o).all smO = true := all_mkT [] fun k hk => y2 k hk
  exact ⟨by rw [smT_iff.2 ⟨by rw [List.length_map]; omega, by rw [List.length_map]; omega, hins, hous⟩], trivial, trivial⟩
theorem ok_tsmall (I : Sx.Interp) (O : OO) (hO : O = oo) (R : OB) (hR : R = bO) : Sx.SpecOK I Try.prog 25 (pspec [.agg [.deep inD, .deep ouD, .v]] false (g_tsmall O R)) := by
 refine spec_pI (spV4_ok I O hO R hR) (by kernel_rfl) (fun ds => match ds with | [.node [.deep i, .deep o, .v (.int .i64 n)]] => [⟨Nat, [1], [], fun B j => [(3, .v (.int .i64 (j : Nat)))], fun B j => [], fun j => j ≤ i.length ∧ ∀ k, k < j → smI (vI (i.getD k [])) = true, fun j => i.length - j, 0⟩, ⟨Nat, [1], [], fun B j => [(4, .v (.int .i64 (j : Nat)))], fun B j => [], fun j => j ≤ o.length ∧ ∀ k, k < j → smO (vO (o.getD k [])) = true, fun j => o.length - j, 0⟩, ⟨Nat × Nat, [1, 4], [], fun B x => [(5, .v (.int .i64 (x.2 : Nat)))], fun B x => [], fun x => x.2 ≤ (vO (o.getD x.1 [])).b.length ∧ ∀ k, k < x.2 → smB (vbAt (vO (o.getD x.1 [])).b k) = true, fun x => (vO (o.getD x.1 [])).b.length - x.2, .fix Prod.fst⟩] | _ => []) Try.func25 (by kernel_rfl) (by kernel_rfl) rfl Try.ntmps25 (by decide) ?_ ?_
 ·intro ds p bs F h
  unfold g_tsmall at h
  split at h
  ·rename_i i o n
   simp only [zsI, zpI] at h
   obtain ⟨_, _, rfl⟩ := h
   kernel_rfl
  ·cases h
 ·intro ds bs F hl h
  unfold g_tsmall at h
  split at h
  ·rename_i i o n
   simp only [zsI, zpI, zaT] at h
   obtain ⟨_, _, rfl⟩ := h
   exact Eq.mpr (by kernel_rfl) (vc_tsmall O R i o n (fo_oo O hO) hR )
  ·cases h
def spV5 (O : OO) (R : OB) (f : FuncId) : Option Sx.Spec := match f with
 | 28 => some (pspec [.agg [.deep inD, .deep ouD, .v], .agg [.deep inD, .deep ouD, .v]] false (g_txsame O R))
 | 25 => some (pspec [.agg [.deep inD, .deep ouD, .v]] false (g_tsmall O R))
 | f => spV4 O R f
theorem spV5_ok (I : Sx.Interp) (O : OO) (hO : O = oo) (R : OB) (hR : R = bO) : ∀ f s, spV5 O R f = some s → Sx.SpecOK I Try.prog f s := by
 intro f s h
 unfold spV5 at h
 split at h
 · cases h; exact ok_txsame I O hO R hR
 · cases h; exact ok_tsmall I O hO R hR
 ·exact spV4_ok I O hO R hR _ s h
end Go.Proofs.Ytaohpdhhbnempaa
