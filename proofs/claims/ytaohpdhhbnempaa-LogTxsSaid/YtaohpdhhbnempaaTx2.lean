/- Transactions: which are right, their bytes and names: the walks, by the symbolic machine (printed by genTx2.py; VCs by VcTool). -/
import Derived.Test.YtaohpdhhbnempaaTx1
namespace Go.Proofs.Ytaohpdhhbnempaa
open Go.RowKit Go.Lib Ckp Cfd Cpd Sx
open IntKind (i64 u64 u8 i32 u32)
set_option linter.unusedVariables false
set_option linter.unusedSimpArgs false
set_option maxRecDepth 1000000
set_option maxHeartbeats 4000000
def txS : ByteArray := ByteArray.mk #[116, 120]

def g_tcoin (O : OO) (R : OB) (ds : List Dt) : zG := match ds with
 | [.v (.int .i64 a)] => some (true, [], fun _ => ⟨[.v (.bool (coinT a))], []⟩)
 | _ => none
theorem vc_tcoin (O : OO) (R : OB) (a : Int) (F : FO O) (hr : R = bO) :
 If (iLe 0 a) (yB (iLe a 1125899906842624) = yB (coinT a) ∧ True ∧ True) (yB false = yB (coinT a) ∧ True ∧ True) := by
 unfold coinT
 exact Sx.if_both (fun h => ⟨by rw [h]; rfl, trivial, trivial⟩) (fun h => ⟨by rw [h]; rfl, trivial, trivial⟩)
theorem ok_tcoin (I : Sx.Interp) (O : OO) (hO : O = oo) (R : OB) (hR : R = bO) : Sx.SpecOK I Try.prog 101 (pspec [.v] false (g_tcoin O R)) := by
 refine spec_pI (spX6_ok I O hO R hR) (by kernel_rfl) (fun _ => []) Try.func101 (by kernel_rfl) (by kernel_rfl) rfl Try.ntmps101 (by decide) ?_ ?_
 ·intro ds p bs F h
  unfold g_tcoin at h
  split at h
  ·rename_i a
   simp only [zsI, zpI] at h
   obtain ⟨_, _, rfl⟩ := h
   kernel_rfl
  ·cases h
 ·intro ds bs F hl h
  unfold g_tcoin at h
  split at h
  ·rename_i a
   simp only [zsI, zpI, zaT] at h
   obtain ⟨_, _, rfl⟩ := h
   exact Eq.mpr (by kernel_rfl) (vc_tcoin O R a (fo_oo O hO) hR )
  ·cases h
def g_twit (O : OO) (R : OB) (ds : List Dt) : zG := match ds with
 | [.node [.v (.int .i64 b), .structs g, .v (.int .u64 s)]] => some (true, [], fun _ => ⟨[.v (.bool (witOk b g))], []⟩)
 | _ => none
theorem vc_twit (O : OO) (R : OB) (b : Int) (g : List (List Int)) (s : Int) (F : FO O) (hr : R = bO) :
 If (iLe 0 b) (If (iLt b 4) (yB (iLe (iOf (Cont.structs [.u64, .u64] g).n) 12) = yB (witOk b g) ∧ True ∧ True) (yB false = yB (witOk b g) ∧ True ∧ True)) (yB false = yB (witOk b g) ∧ True ∧ True) := by
 have e : iLe (iOf (Cont.structs [u64, u64] g).n) 12 = Nat.ble g.length 12 := by
  rw [Bool.eq_iff_iff, Nat.ble_eq]; simp only [Bz, Sx.Cont.n, zUn]; omega
 rw [e]
 unfold witOk
 exact Sx.if_both (fun h => Sx.if_both (fun h2 => ⟨by rw [h, h2]; rfl, trivial, trivial⟩) (fun h2 => ⟨by rw [h, h2]; rfl, trivial, trivial⟩)) (fun h => ⟨by rw [h]; rfl, trivial, trivial⟩)
theorem ok_twit (I : Sx.Interp) (O : OO) (hO : O = oo) (R : OB) (hR : R = bO) : Sx.SpecOK I Try.prog 86 (pspec [.agg [.v, .roS [.u64, .u64], .v]] false (g_twit O R)) := by
 refine spec_pI (spX6_ok I O hO R hR) (by kernel_rfl) (fun _ => []) Try.func86 (by kernel_rfl) (by kernel_rfl) rfl Try.ntmps86 (by decide) ?_ ?_
 ·intro ds p bs F h
  unfold g_twit at h
  split at h
  ·rename_i b g s
   simp only [zsI, zpI] at h
   obtain ⟨_, _, rfl⟩ := h
   kernel_rfl
  ·cases h
 ·intro ds bs F hl h
  unfold g_twit at h
  split at h
  ·rename_i b g s
   simp only [zsI, zpI, zaT] at h
   obtain ⟨_, _, rfl⟩ := h
   exact Eq.mpr (by kernel_rfl) (vc_twit O R b g s (fo_oo O hO) hR )
  ·cases h
def spZt0 (O : OO) (R : OB) (f : FuncId) : Option Sx.Spec := match f with
 | 101 => some (pspec [.v] false (g_tcoin O R))
 | 86 => some (pspec [.agg [.v, .roS [.u64, .u64], .v]] false (g_twit O R))
 | f => spX6 O R f
theorem spZt0_ok (I : Sx.Interp) (O : OO) (hO : O = oo) (R : OB) (hR : R = bO) : ∀ f s, spZt0 O R f = some s → Sx.SpecOK I Try.prog f s := by
 intro f s h
 unfold spZt0 at h
 split at h
 · cases h; exact ok_tcoin I O hO R hR
 · cases h; exact ok_twit I O hO R hR
 ·exact spX6_ok I O hO R hR _ s h
def g_tadd (O : OO) (R : OB) (ds : List Dt) : zG := match ds with
 | [.v (.int .i64 a), .v (.int .i64 b)] => some (true, [], fun _ => ⟨[.v (.int .i64 (addV a b)), .v (.bool (addT a b))], []⟩)
 | _ => none
theorem vc_tadd (O : OO) (R : OB) (a b : Int) (F : FO O) (hr : R = bO) :
 let T1 := yI 0 = yI (addV a b) ∧ yB false = yB (addT a b); If (!coinT a) (T1 ∧ True ∧ True) (If (!coinT b) (T1 ∧ True ∧ True) (If (iLt (i64.wrap (iSub 1125899906842624 b))
  a) (T1 ∧ True ∧ True) ((yI (i64.wrap (iAdd a b)) = yI (addV a b) ∧ yB true = yB (addT a b)) ∧ True ∧ True))) := by
 conv => zeta
 cases ha : coinT a
 ·exact ziT rfl ⟨⟨by unfold addV addT; rw [ha]; rfl, by unfold addT; rw [ha]; rfl⟩, trivial, trivial⟩
 cases hb : coinT b
 ·exact Sx.if_false rfl (ziT rfl ⟨⟨by unfold addV addT; rw [ha, hb]; rfl, by unfold addT; rw [ha, hb]; rfl⟩, trivial, trivial⟩)
 cases hc : iLt (i64.wrap (iSub 1125899906842624 b)) a
 ·exact Sx.if_false rfl (Sx.if_false rfl (Sx.if_false rfl ⟨⟨by unfold addV addT; rw [ha, hb, hc]; rfl, by unfold addT; rw [ha, hb, hc]; rfl⟩, trivial, trivial⟩))
 ·exact Sx.if_false rfl (Sx.if_false rfl (ziT rfl ⟨⟨by unfold addV addT; rw [ha, hb, hc]; rfl, by unfold addT; rw [ha, hb, hc]; rfl⟩, trivial, trivial⟩))
theorem ok_tadd (I : Sx.Interp) (O : OO) (hO : O = oo) (R : OB) (hR : R = bO) : Sx.SpecOK I Try.prog 87 (pspec [.v, .v] false (g_tadd O R)) := by
 refine spec_pI (spZt0_ok I O hO R hR) (by kernel_rfl) (fun _ => []) Try.func87 (by kernel_rfl) (by kernel_rfl) rfl Try.ntmps87 (by decide) ?_ ?_
 ·intro ds p bs F h
  unfold g_tadd at h
  split at h
  ·rename_i a b
   simp only [zsI, zpI] at h
   obtain ⟨_, _, rfl⟩ := h
   kernel_rfl
  ·cases h
 ·intro ds bs F hl h
  unfold g_tadd at h
  split at h
  ·rename_i a b
   simp only [zsI, zpI, zaT] at h
   obtain ⟨_, _, rfl⟩ := h
   exact Eq.mpr (by kernel_rfl) (vc_tadd O R a b (fo_oo O hO) hR )
  ·cases h
def spZt1 (O : OO) (R : OB) (f : FuncId) : Option Sx.Spec := match f with
 | 87 => some (pspec [.v, .v] false (g_tadd O R))
 | f => spZt0 O R f
theorem spZt1_ok (I : Sx.Interp) (O : OO) (hO : O = oo) (R : OB) (hR : R = bO) : ∀ f s, spZt1 O R f = some s → Sx.SpecOK I Try.prog f s := by
 intro f s h
 unfold spZt1 at h
 split at h
 · cases h; exact ok_tadd I O hO R hR
 ·exact spZt0_ok I O hO R hR _ s h
def g_txright (O : OO) (R : OB) (ds : List Dt) : zG := match ds with
 | [.node [.deep i, .deep o, .v (.int .i64 n)]] => some ((txW O (i.map vI) (o.map vO) n), [], fun _ => ⟨[.v (.bool (txOk O (i.map vI) (o.map vO) n))], []⟩)
 | _ => none
theorem vc_txright (O : OO) (R : OB) (i o : List (List DD)) (n : Int) (F : FO O) (hr : R = bO) (g1 : (txW O (i.map vI) (o.map vO) n) = true) :
 let T1 := yB false = yB (txOk O (List.map vI i) (List.map vO o) n) ∧ True ∧ True; If (iLt (iOf i.length) 1) T1 (If (iLt 64 (iOf i.length)) T1 (If (iLt 64 (iOf o.length)) T1 (If (iLt
  n 0) T1 ( (∃ (x : Nat), (x ≤ i.length ∧ ∀ (k : Nat), k.succ ≤ x → inAt (List.map vI i) k = true) ∧ (yI 0 = yI (iOf x) ∧ yI (iOf i.length) = yI (iOf i.length) ∧ True) ∧ EqII []
  (keysT (List.map vI i) x) ∧ yI n = yI n ∧ Res.deep inD i = Res.deep inD i ∧ Res.deep ouD o = Res.deep ouD o ∧ True) ∧ ∀ (x : Nat), (x ≤ i.length ∧ ∀ (k : Nat), k.succ ≤ x → inAt
  (List.map vI i) k = true) → If (iLt (iOf x) (iOf i.length)) (If (iLe 0 (iOf x) && (iOf x).toNat.blt i.length) (If (true && Nat.beq 36 36 && (iOf x).toNat.blt i.length) (If (memK kkT
  (keysT (List.map vI i) x) (tabI (hF (i.getD (iOf x).toNat [])) 33)) T1 (If (iLt ((i.getD (iOf x).toNat []).getD 32 (DD.n 0)).i 0) T1 (If (iLe 64 ((i.getD (iOf x).toNat []).getD 32
  (DD.n 0)).i) T1 (If (!witOk ((i.getD (iOf x).toNat []).getD 33 (DD.n 0)).i (List.map ddI ((i.getD (iOf x).toNat []).getD 34 (DD.n 0)).l)) T1 (If (memK kkT (keysT (List.map vI i) x)
  (tabI (hF (i.getD (iOf x).toNat [])) 33)) False (∃ (x' : Nat), (x' ≤ i.length ∧ ∀ (k : Nat), k.succ ≤ x' → inAt (List.map vI i) k = true) ∧ (nSub i.length x').succ ≤ nSub i.length x
  ∧ (yI (i64.wrap (iAdd (iOf x) 1)) = yI (iOf x') ∧ yI (iOf i.length) = yI (iOf i.length) ∧ True) ∧ EqII (app (keysT (List.map vI i) x) [(tabI (hF (i.getD (iOf x).toNat []))
  33)]) (keysT (List.map vI i) x') ∧ yI n = yI n ∧ Res.deep inD i = Res.deep inD i ∧ Res.deep ouD o = Res.deep ouD o ∧ True)))))) False) False) ( (∃ (x : Nat), (x ≤ o.length ∧ ∀ (k :
  Nat), k.succ ≤ x → ouAt O (List.map vO o) k = true) ∧ (yI 0 = yI (sumT (List.map vO o) x) ∧ yB true = yB true ∧ yI 0 = yI (iOf x) ∧ yI (iOf o.length) = yI (iOf o.length) ∧ True) ∧
  yI n = yI n ∧ Res.deep inD i = Res.deep inD i ∧ Res.deep ouD o = Res.deep ouD o ∧ True) ∧ ∀ (x : Nat), (x ≤ o.length ∧ ∀ (k : Nat), k.succ ≤ x → ouAt O (List.map vO o) k = true) →
  If (iLt (iOf x) (iOf o.length)) (If (iLe 0 (iOf x) && (iOf x).toNat.blt o.length) (If (true && Nat.beq 2 2 && (iOf x).toNat.blt o.length) (If (!addT (sumT (List.map vO o) x)
  ((o.getD (iOf x).toNat []).getD 0 (DD.n 0)).i) T1 (If (((o.getD (iOf x).toNat []).getD 1 (DD.n 0)).l.length.ble 1000 && lkW (List.map vB ((o.getD (iOf x).toNat []).getD 1 (DD.n
  0)).l)) (If (!lkOk O (List.map vB ((o.getD (iOf x).toNat []).getD 1 (DD.n 0)).l)) T1 (∃ (x' : Nat), (x' ≤ o.length ∧ ∀ (k : Nat), k.succ ≤ x' → ouAt O (List.map vO o) k = true) ∧
  (nSub o.length x').succ ≤ nSub o.length x ∧ (yI (addV (sumT (List.map vO o) x) ((o.getD (iOf x).toNat []).getD 0 (DD.n 0)).i) = yI (sumT (List.map vO o) x') ∧ yB (addT (sumT
  (List.map vO o) x) ((o.getD (iOf x).toNat []).getD 0 (DD.n 0)).i) = yB true ∧ yI (i64.wrap (iAdd (iOf x) 1)) = yI (iOf x') ∧ yI (iOf o.length) = yI (iOf o.length) ∧ True) ∧
  yI n = yI n ∧ Res.deep inD i = Res.deep inD i ∧ Res.deep ouD o = Res.deep ouD o ∧ True)) False)) False) False) (yB true = yB (txOk O (List.map vI i) (List.map vO o) n) ∧ True ∧
  True)))))) := by
 conv => zeta
 obtain ⟨I, hI⟩ : ∃ I, List.map vI i = I := ⟨_, rfl⟩
 obtain ⟨U, hU⟩ : ∃ U, List.map vO o = U := ⟨_, rfl⟩
 have hIl : I.length = i.length := by rw [← hI, List.length_map]
 have hUl : U.length = o.length := by rw [← hU, List.length_map]
 rw [hI, hU] at g1 ⊢
 obtain ⟨t1, t2, t3, t4, t5⟩ := txW_iff.1 g1
 have nb : ∀ {P : Prop}, (txOk O I U n = true → P) → ¬P → (Value.bool false = Value.bool (txOk O I U n) ∧ True ∧ True) := fun h hn => ⟨by rw [Bool.eq_false_iff.2 fun e => hn (h e)], trivial, trivial⟩
 refine Sx.if_both (fun a => nb (fun h => (txOk_iff.1 h).1) (by simp only [Bz, Sx.Cont.n, zUn] at a; omega)) (fun a => ?_)
 refine Sx.if_both (fun b => nb (fun h => (txOk_iff.1 h).2.1) (by simp only [Bz, Sx.Cont.n, zUn] at b; omega)) (fun b => ?_)
 refine Sx.if_both (fun c => nb (fun h => (txOk_iff.1 h).2.2.1) (by simp only [Bz, Sx.Cont.n, zUn] at c; omega)) (fun c => ?_)
 refine Sx.if_both (fun d => nb (fun h => (txOk_iff.1 h).2.2.2.1) (by simp only [Bz, Sx.Cont.n, zUn] at d; omega)) (fun d => ?_)
 simp only [Bz, Sx.Cont.n, zUn] at a b c d
 refine ⟨⟨0, ⟨Nat.zero_le _, fun k hk => absurd hk (Nat.not_succ_le_zero _)⟩, (by repeat' (first | exact True.intro | exact rfl | refine ⟨?_, ?_⟩))⟩, fun x ⟨x1, x2⟩ => ?_⟩
 have hn : (iOf x).toNat = x := by simp only [zUn, ztN]
 rw [hn]
 refine Sx.if_both (fun f => ?_) (fun f => ?_)
 ·simp only [Bz, Sx.Cont.n, zUn] at f
  have hx : x < i.length := by omega
  have hb : x.blt i.length = true := by rw [Nat.blt_eq]; exact hx
  have w1 : i64.wrap (iAdd (iOf x) 1) = iOf (x + 1) := by simp only [zUn]; rw [IntKind.wrap_i64]; omega
  obtain ⟨v, hv⟩ : ∃ v, vI (i.getD x []) = v := ⟨_, rfl⟩
  have hxI : x < I.length := by omega
  have hvI : viAt I x = v := by rw [← hI, viAt_map hx, hv]
  have e32 : ((i.getD x []).getD 32 (DD.n 0)).i = v.n := by rw [← hv]; rfl
  have e33 : ((i.getD x []).getD 33 (DD.n 0)).i = v.b := by rw [← hv]; rfl
  have e34 : List.map ddI ((i.getD x []).getD 34 (DD.n 0)).l = v.g := by rw [← hv]; rfl
  have e35 : ((i.getD x []).getD 35 (DD.n 0)).i = v.s := by rw [← hv]; rfl
  have eK : tabI (hF (i.getD x [])) 33 = kI v := by rw [← hv, kI_vI]
  have eH : tabI (fnA (AV (hF (i.getD x [])))) 32 = v.h := by rw [tab_fnA, ← hv]; rfl
  have eA : AV (hF (i.getD x [])) = Array.mk (v.h.map (Value.int .u8)) := by rw [← hv]; rfl
  have ni : ∀ {P : Prop}, (inAt I x = true → P) → ¬P → (Value.bool false = Value.bool (txOk O I U n) ∧ True ∧ True) := fun h hn => nb (fun e => h (insOk_at (txOk_iff.1 e).2.2.2.2.1 hxI)) hn
  rw [hb, w1, e32, e33, e34, eK]
  refine ziT (by simp only [Bz, Sx.Cont.n, zUn]; exact ⟨by omega, trivial⟩) (ziT rfl (Sx.if_both (fun p => ni (fun h => (inAt_iff.1 h).1) (by rw [hvI, p]; decide)) (fun p => ?_)))
  refine Sx.if_both (fun q => ni (fun h => (inAt_iff.1 h).2.1) (by rw [hvI]; simp only [Bz, Sx.Cont.n] at q; omega)) (fun q => ?_)
  refine Sx.if_both (fun r => ni (fun h => (inAt_iff.1 h).2.2.1) (by rw [hvI]; simp only [Bz, Sx.Cont.n] at r; omega)) (fun r => ?_)
  refine Sx.if_both (fun s => ni (fun h => (inAt_iff.1 h).2.2.2) (by rw [hvI]; intro h; rw [h] at s; cases s)) (fun s => Sx.if_false p ?_)
  simp only [Bz, Sx.Cont.n] at q r
  have s' : witOk v.b v.g = true := by simpa using s
  have ok : inAt I x = true := inAt_iff.2 (by rw [hvI]; exact ⟨p, by omega, by omega, s'⟩)
  refine ⟨x + 1, ⟨hx, fun k hk => ?_⟩, by simp only [zUn]; omega, (by repeat' (first | exact True.intro | exact rfl | refine ⟨?_, ?_⟩)), ?_, (by repeat' (first | exact True.intro | exact rfl | refine ⟨?_, ?_⟩))⟩
  ·rcases Nat.lt_or_ge k x with h' | h'
   ·exact x2 k h'
   ·have : k = x := by omega
    rw [this]; exact ok
  ·show keysT I x ++ [kI v] = keysT I (x + 1)
   rw [keysT_succ hxI, hvI]
 ·simp only [Bz, Sx.Cont.n, zUn] at f
  obtain rfl : x = i.length := by omega
  have hins : insOk I = true := insOk_mk fun k hk => x2 k (by omega)
  refine ⟨⟨0, ⟨Nat.zero_le _, fun k hk => absurd hk (Nat.not_succ_le_zero _)⟩, (by repeat' (first | exact True.intro | exact rfl | refine ⟨?_, ?_⟩))⟩, fun x ⟨y1, y2⟩ => ?_⟩
  have hn : (iOf x).toNat = x := by simp only [zUn, ztN]
  rw [hn]
  refine Sx.if_both (fun f => ?_) (fun f => ?_)
  ·simp only [Bz, Sx.Cont.n, zUn] at f
   have hx : x < o.length := by omega
   have hb : x.blt o.length = true := by rw [Nat.blt_eq]; exact hx
   have w1 : i64.wrap (iAdd (iOf x) 1) = iOf (x + 1) := by simp only [zUn]; rw [IntKind.wrap_i64]; omega
   obtain ⟨v, hv⟩ : ∃ v, vO (o.getD x []) = v := ⟨_, rfl⟩
   have hxU : x < U.length := by omega
   have hvU : voAt U x = v := by rw [← hU, voAt_map hx, hv]
   have e0 : ((o.getD x []).getD 0 (DD.n 0)).i = v.a := by rw [← hv]; rfl
   have e1 : List.map vB ((o.getD x []).getD 1 (DD.n 0)).l = v.b := by rw [← hv]; rfl
   have e2 : ((o.getD x []).getD 1 (DD.n 0)).l.length = v.b.length := by rw [← e1, List.length_map]
   have ni : ∀ {P : Prop}, (ouAt O U x = true → P) → ¬P → (Value.bool false = Value.bool (txOk O I U n) ∧ True ∧ True) := fun h hn => nb (fun e => h (ousOk_at (txOk_iff.1 e).2.2.2.2.2 hxU)) hn
   obtain ⟨w2, w3⟩ := ouW_iff.1 (List.all_eq_true.1 t2 _ (voAt_mem hxU))
   rw [hvU] at w2 w3
   rw [hb, w1, e0, e1, e2]
   refine ziT (by simp only [Bz, Sx.Cont.n, zUn]; exact ⟨by omega, trivial⟩) (ziT rfl (Sx.if_both (fun p => ni (fun h => (ouAt_iff.1 h).1) (by rw [hvU]; intro h; rw [h] at p; cases p)) (fun p => ?_)))
   refine ziT (by rw [w2, Bool.and_true, Nat.ble_eq]; exact w3) (Sx.if_both (fun q => ni (fun h => (ouAt_iff.1 h).2) (by rw [hvU]; intro h; rw [h] at q; cases q)) (fun q => ?_))
   have p' : addT (sumT U x) v.a = true := by simpa using p
   have q' : lkOk O v.b = true := by simpa using q
   have ok : ouAt O U x = true := ouAt_iff.2 (by rw [hvU]; exact ⟨p', q'⟩)
   refine ⟨x + 1, ⟨hx, fun k hk => ?_⟩, by simp only [zUn]; omega, ⟨?_, ?_, rfl, rfl, trivial⟩, (by repeat' (first | exact True.intro | exact rfl | refine ⟨?_, ?_⟩))⟩
   ·rcases Nat.lt_or_ge k x with h' | h'
    ·exact y2 k h'
    ·have : k = x := by omega
     rw [this]; exact ok
   ·show Value.int i64 (addV (sumT U x) v.a) = Value.int i64 (addV (sumT U x) (voAt U x).a)
    rw [hvU]
   ·rw [p']
  ·simp only [Bz, Sx.Cont.n, zUn] at f
   obtain rfl : x = o.length := by omega
   have hous : ousOk O U = true := ousOk_mk fun k hk => y2 k (by omega)
   exact ⟨by rw [txOk_iff.2 ⟨by omega, by omega, by omega, by omega, hins, hous⟩], trivial, trivial⟩
theorem ok_txright (I : Sx.Interp) (O : OO) (hO : O = oo) (R : OB) (hR : R = bO) : Sx.SpecOK I Try.prog 50 (pspec [.agg [.deep inD, .deep ouD, .v]] false (g_txright O R)) := by
 refine spec_pI (spZt1_ok I O hO R hR) (by kernel_rfl) (fun ds => match ds with | [.node [.deep i, .deep o, .v (.int .i64 n)]] => [⟨Nat, [1, 3, 33, 34], [], fun B j => [(35, .v (.int .i64 (j : Nat)))], fun B j => [(1536, .mp kkT (keysT (i.map vI) j))], fun j => j ≤ i.length ∧ (∀ k, k < j → inAt (i.map vI) k = true), fun j => i.length - j, 0⟩, ⟨Nat, [1, 66, 67], [], fun B j => [(6, .v (.int .i64 (sumT (o.map vO) j))), (7, .v (.bool true)), (68, .v (.int .i64 (j : Nat)))], fun B j => [], fun j => j ≤ o.length ∧ (∀ k, k < j → ouAt O (o.map vO) k = true), fun j => o.length - j, 0⟩] | _ => []) Try.func50 (by kernel_rfl) (by kernel_rfl) rfl Try.ntmps50 (by decide) ?_ ?_
 ·intro ds p bs F h
  unfold g_txright at h
  split at h
  ·rename_i i o n
   simp only [zsI, zpI] at h
   obtain ⟨_, _, rfl⟩ := h
   kernel_rfl
  ·cases h
 ·intro ds bs F hl h
  unfold g_txright at h
  split at h
  ·rename_i i o n
   simp only [zsI, zpI, zaT] at h
   obtain ⟨g1, _, rfl⟩ := h
   exact Eq.mpr (by kernel_rfl) (vc_txright O R i o n (fo_oo O hO) hR (by first | exact g1 | (simp only [zaT]; exact g1)))
  ·cases h
def spZt2 (O : OO) (R : OB) (f : FuncId) : Option Sx.Spec := match f with
 | 50 => some (pspec [.agg [.deep inD, .deep ouD, .v]] false (g_txright O R))
 | f => spZt1 O R f
theorem spZt2_ok (I : Sx.Interp) (O : OO) (hO : O = oo) (R : OB) (hR : R = bO) : ∀ f s, spZt2 O R f = some s → Sx.SpecOK I Try.prog f s := by
 intro f s h
 unfold spZt2 at h
 split at h
 · cases h; exact ok_txright I O hO R hR
 ·exact spZt1_ok I O hO R hR _ s h
def g_txplain (O : OO) (R : OB) (ds : List Dt) : zG := match ds with
 | [.node [.deep i, .deep o, .v (.int .i64 n)]] => some ((txW O (i.map vI) (o.map vO) n) && (txOk O (i.map vI) (o.map vO) n), [], fun _ => ⟨[.row 3], [(3, .own 5 (.ints .u8 (plB R (i.map vI) (o.map vO) n)))]⟩)
 | _ => none
theorem vc_txplain (O : OO) (R : OB) (i o : List (List DD)) (n : Int) (F : FO O) (hr : R = bO) (g1 : (txW O (i.map vI) (o.map vO) n) = true) (g2 : (txOk O (i.map vI) (o.map vO) n) = true) :
 If (Nat.ble 0 1000000 && iLe (iOf i.length) 9223372036854775807) ( (∃ (x : Nat), x ≤ i.length ∧ (yI 0 = yI (iOf x) ∧ yI (iOf i.length) = yI (iOf i.length) ∧ True) ∧ EqI (app [] (R.row (iOf i.length))) (plI R (List.map vI i) x) ∧ yI n = yI n ∧ Res.deep inD i = Res.deep inD i ∧ Res.deep ouD o = Res.deep ouD o ∧ True) ∧ ∀ (x : Nat), x ≤ i.length → If (iLt (iOf x) (iOf i.length)) (If (iLe 0 (iOf x) && (iOf x).toNat.blt i.length) (If (true && Nat.beq 36 36 && (iOf x).toNat.blt i.length) (If ((plI R (List.map vI i) x).length.ble 1000000 && O.isH (AV (hF (i.getD (iOf x).toNat [])))) (If ((app (plI R (List.map vI i) x) (tabI (fnA (AV (hF (i.getD (iOf x).toNat [])))) 32)).length.ble 1000000 && iLe ((i.getD (iOf x).toNat []).getD 32 (DD.n 0)).i 9223372036854775807) (∃ (x' : Nat), x' ≤ i.length ∧ (nSub i.length x').succ ≤ nSub i.length x ∧ (yI (i64.wrap (iAdd (iOf x) 1)) = yI (iOf x') ∧ yI (iOf i.length) = yI (iOf i.length) ∧ True) ∧ EqI (bif iLt ((i.getD (iOf x).toNat []).getD 32 (DD.n 0)).i 0 then app (plI R (List.map vI i) x) (tabI (fnA (AV (hF (i.getD (iOf x).toNat [])))) 32) else app (app (plI R (List.map vI i) x) (tabI (fnA (AV (hF (i.getD (iOf x).toNat [])))) 32)) (R.row ((i.getD (iOf x).toNat []).getD 32 (DD.n 0)).i)) (plI R (List.map vI i) x') ∧ yI n = yI n ∧ Res.deep inD i = Res.deep inD i ∧ Res.deep ouD o = Res.deep ouD o ∧ True) False) False) False) False) (If ((plI R (List.map vI i) x).length.ble 1000000 && iLe (iOf o.length) 9223372036854775807) ( (∃ (x_1 : Nat), x_1 ≤ o.length ∧ (yI 0 = yI (iOf x_1) ∧ yI (iOf o.length) = yI (iOf o.length) ∧ True) ∧ EqI (app (plI R (List.map vI i) x) (R.row (iOf o.length))) (plO R (List.map vI i) (List.map vO o) x_1) ∧ yI n = yI n ∧ Res.deep inD i = Res.deep inD i ∧ Res.deep ouD o = Res.deep ouD o ∧ True) ∧ ∀ (x : Nat), x ≤ o.length → If (iLt (iOf x) (iOf o.length)) (If (iLe 0 (iOf x) && (iOf x).toNat.blt o.length) (If (true && Nat.beq 2 2 && (iOf x).toNat.blt o.length) (If ((plO R (List.map vI i) (List.map vO o) x).length.ble 1000000 && iLe ((o.getD (iOf x).toNat []).getD 0 (DD.n 0)).i 9223372036854775807) (If (((o.getD (iOf x).toNat []).getD 1 (DD.n 0)).l.length.ble 1000 && lkW (List.map vB ((o.getD (iOf x).toNat []).getD 1 (DD.n 0)).l)) (If ((bif iLt ((o.getD (iOf x).toNat []).getD 0 (DD.n 0)).i 0 then plO R (List.map vI i) (List.map vO o) x else app (plO R (List.map vI i) (List.map vO o) x) (R.row ((o.getD (iOf x).toNat []).getD 0 (DD.n 0)).i)).length.ble 1000000 && (lkZ O R (List.map vB ((o.getD (iOf x).toNat []).getD 1 (DD.n 0)).l)).length.ble 1000000) (∃ (x' : Nat), x' ≤ o.length ∧ (nSub o.length x').succ ≤ nSub o.length x ∧ (yI (i64.wrap (iAdd (iOf x) 1)) = yI (iOf x') ∧ yI (iOf o.length) = yI (iOf o.length) ∧ True) ∧ EqI (app (app (bif iLt ((o.getD (iOf x).toNat []).getD 0 (DD.n 0)).i 0 then plO R (List.map vI i) (List.map vO o) x else app (plO R (List.map vI i) (List.map vO o) x) (R.row ((o.getD (iOf x).toNat []).getD 0 (DD.n 0)).i)) (R.row (iOf (lkZ O R (List.map vB ((o.getD (iOf x).toNat []).getD 1 (DD.n 0)).l)).length))) (lkZ O R (List.map vB ((o.getD (iOf x).toNat []).getD 1 (DD.n 0)).l))) (plO R (List.map vI i) (List.map vO o) x') ∧ yI n = yI n ∧ Res.deep inD i = Res.deep inD i ∧ Res.deep ouD o = Res.deep ouD o ∧ True) False) False) False) False) False) (If ((plO R (List.map vI i) (List.map vO o) x).length.ble 1000000 && iLe n 9223372036854775807) (True ∧ EqI (bif iLt n 0 then plO R (List.map vI i) (List.map vO o) x else app (plO R (List.map vI i) (List.map vO o) x) (R.row n)) (plB R (List.map vI i) (List.map vO o) n) ∧ True) False)) False)) False := by
 obtain ⟨I, hI⟩ : ∃ I, List.map vI i = I := ⟨_, rfl⟩
 obtain ⟨U, hU⟩ : ∃ U, List.map vO o = U := ⟨_, rfl⟩
 have hIl : I.length = i.length := by rw [← hI, List.length_map]
 have hUl : U.length = o.length := by rw [← hU, List.length_map]
 rw [hI, hU] at g1 g2 ⊢
 obtain ⟨t1, t2, t3, t4, t5⟩ := txW_iff.1 g1
 obtain ⟨k1, k2, k3, k4, k5, k6⟩ := txOk_iff.1 g2
 refine ziT (by simp only [Bz, Sx.Cont.n, zUn]; exact ⟨by decide, by omega⟩) ⟨⟨0, Nat.zero_le _, (by repeat' (first | exact True.intro | exact rfl | refine ⟨?_, ?_⟩)), ?_, (by repeat' (first | exact True.intro | exact rfl | refine ⟨?_, ?_⟩))⟩, fun x x1 => ?_⟩
 ·show [] ++ R.row _ = R.row (I.length : Int) ++ []
  rw [hIl, List.append_nil]; rfl
 have hn : (iOf x).toNat = x := by simp only [zUn, ztN]
 rw [hn]
 have lp := plI_len hr t1 k2 x
 refine Sx.if_both (fun f => ?_) (fun f => ?_)
 ·simp only [Bz, Sx.Cont.n, zUn] at f
  have hx : x < i.length := by omega
  have hb : x.blt i.length = true := by rw [Nat.blt_eq]; exact hx
  have w1 : i64.wrap (iAdd (iOf x) 1) = iOf (x + 1) := by simp only [zUn]; rw [IntKind.wrap_i64]; omega
  obtain ⟨v, hv⟩ : ∃ v, vI (i.getD x []) = v := ⟨_, rfl⟩
  have hxI : x < I.length := by omega
  have hvI : viAt I x = v := by rw [← hI, viAt_map hx, hv]
  have e32 : ((i.getD x []).getD 32 (DD.n 0)).i = v.n := by rw [← hv]; rfl
  have e33 : ((i.getD x []).getD 33 (DD.n 0)).i = v.b := by rw [← hv]; rfl
  have e34 : List.map ddI ((i.getD x []).getD 34 (DD.n 0)).l = v.g := by rw [← hv]; rfl
  have e35 : ((i.getD x []).getD 35 (DD.n 0)).i = v.s := by rw [← hv]; rfl
  have eK : tabI (hF (i.getD x [])) 33 = kI v := by rw [← hv, kI_vI]
  have eH : tabI (fnA (AV (hF (i.getD x [])))) 32 = v.h := by rw [tab_fnA, ← hv]; rfl
  have eA : AV (hF (i.getD x [])) = Array.mk (v.h.map (Value.int .u8)) := by rw [← hv]; rfl
  obtain ⟨q1, q2, _, _, _⟩ := txo_in k5 hxI
  obtain ⟨w2, w3, _⟩ := inW_iff.1 (List.all_eq_true.1 t1 _ (viAt_mem hxI))
  rw [hvI] at q1 q2 w2 w3
  rw [hb, w1, e32, eH, eA, w3, show iLt v.n 0 = false by simp only [Bz, Sx.Cont.n]; omega, cond_false]
  refine ziT (by simp only [Bz, Sx.Cont.n, zUn]; exact ⟨by omega, trivial⟩) (ziT rfl (ziT (by rw [Bool.and_true, Nat.ble_eq]; omega) (ziT (by simp only [Bz, Sx.Cont.n, zUn, zlA]; omega) ⟨x + 1, hx, by simp only [zUn]; omega, (by repeat' (first | exact True.intro | exact rfl | refine ⟨?_, ?_⟩)), ?_, (by repeat' (first | exact True.intro | exact rfl | refine ⟨?_, ?_⟩))⟩)))
  show plI R I x ++ v.h ++ R.row v.n = plI R I (x + 1)
  rw [plI_snoc R hxI, hvI]
 ·simp only [Bz, Sx.Cont.n, zUn] at f
  obtain rfl : x = i.length := by omega
  refine ziT (by simp only [Bz, Sx.Cont.n, zUn]; omega) ⟨⟨0, Nat.zero_le _, (by repeat' (first | exact True.intro | exact rfl | refine ⟨?_, ?_⟩)), ?_, (by repeat' (first | exact True.intro | exact rfl | refine ⟨?_, ?_⟩))⟩, fun x x2 => ?_⟩
  ·show plI R I i.length ++ R.row _ = plI R I I.length ++ R.row (U.length : Int) ++ []
   rw [hIl, hUl, List.append_nil]; rfl
  have hn : (iOf x).toNat = x := by simp only [zUn, ztN]
  rw [hn]
  have lo := plO_len hr t1 k2 k3 k6 x
  refine Sx.if_both (fun f => ?_) (fun f => ?_)
  ·simp only [Bz, Sx.Cont.n, zUn] at f
   have hx : x < o.length := by omega
   have hb : x.blt o.length = true := by rw [Nat.blt_eq]; exact hx
   have w1 : i64.wrap (iAdd (iOf x) 1) = iOf (x + 1) := by simp only [zUn]; rw [IntKind.wrap_i64]; omega
   obtain ⟨v, hv⟩ : ∃ v, vO (o.getD x []) = v := ⟨_, rfl⟩
   have hxU : x < U.length := by omega
   have hvU : voAt U x = v := by rw [← hU, voAt_map hx, hv]
   have e0 : ((o.getD x []).getD 0 (DD.n 0)).i = v.a := by rw [← hv]; rfl
   have e1 : List.map vB ((o.getD x []).getD 1 (DD.n 0)).l = v.b := by rw [← hv]; rfl
   have e2 : ((o.getD x []).getD 1 (DD.n 0)).l.length = v.b.length := by rw [← e1, List.length_map]
   obtain ⟨q1, q2, q3⟩ := txo_ou k6 hxU
   obtain ⟨w2, w3⟩ := ouW_iff.1 (List.all_eq_true.1 t2 _ (voAt_mem hxU))
   rw [hvU] at q1 q2 q3 w2 w3
   have ra := rowT_len hr v.a
   have lb := lkB_len hr q3
   have hz : lkZ O R v.b = lkB R v.b := by unfold lkZ; rw [q3]; rfl
   rw [hb, w1, e0, e1, e2, w2, hz, show iLt v.a 0 = false by simp only [Bz, Sx.Cont.n]; omega, cond_false]
   refine ziT (by simp only [Bz, Sx.Cont.n, zUn]; exact ⟨by omega, trivial⟩) (ziT rfl (ziT (by simp only [Bz, Sx.Cont.n, zUn]; omega) (ziT (by rw [Bool.and_true, Nat.ble_eq]; exact w3) (ziT (by simp only [zUn, zaT, Nat.ble_eq, zlA]; omega) ⟨x + 1, hx, by simp only [zUn]; omega, (by repeat' (first | exact True.intro | exact rfl | refine ⟨?_, ?_⟩)), ?_, (by repeat' (first | exact True.intro | exact rfl | refine ⟨?_, ?_⟩))⟩))))
   show plO R I U x ++ R.row v.a ++ R.row ((lkB R v.b).length : Int) ++ lkB R v.b = plO R I U (x + 1)
   rw [plO_snoc R I hxU, hvU]
  ·simp only [Bz, Sx.Cont.n, zUn] at f
   obtain rfl : x = o.length := by omega
   rw [show iLt n 0 = false by simp only [Bz, Sx.Cont.n]; omega, cond_false]
   refine ziT (by simp only [Bz, Sx.Cont.n, zUn]; omega) ⟨trivial, ?_, trivial⟩
   show plO R I U o.length ++ R.row n = plO R I U U.length ++ R.row n
   rw [hUl]
theorem ok_txplain (I : Sx.Interp) (O : OO) (hO : O = oo) (R : OB) (hR : R = bO) : Sx.SpecOK I Try.prog 51 (pspec [.agg [.deep inD, .deep ouD, .v]] false (g_txplain O R)) := by
 refine spec_pI (spZt2_ok I O hO R hR) (by kernel_rfl) (fun ds => match ds with | [.node [.deep i, .deep o, .v (.int .i64 n)]] => [⟨Nat, [1, 13, 14], [(3, 5, .ints .u8 [])], fun B j => [(3, .row B), (15, .v (.int .i64 (j : Nat)))], fun B j => [(B, .own 5 (.ints .u8 (plI R (i.map vI) j)))], fun j => j ≤ i.length, fun j => i.length - j, 0⟩, ⟨Nat, [1, 35, 36], [(3, 5, .ints .u8 [])], fun B j => [(3, .row B), (37, .v (.int .i64 (j : Nat)))], fun B j => [(B, .own 5 (.ints .u8 (plO R (i.map vI) (o.map vO) j)))], fun j => j ≤ o.length, fun j => o.length - j, 0⟩] | _ => []) Try.func51 (by kernel_rfl) (by kernel_rfl) rfl Try.ntmps51 (by decide) ?_ ?_
 ·intro ds p bs F h
  unfold g_txplain at h
  split at h
  ·rename_i i o n
   simp only [zsI, zpI] at h
   obtain ⟨_, _, rfl⟩ := h
   kernel_rfl
  ·cases h
 ·intro ds bs F hl h
  unfold g_txplain at h
  split at h
  ·rename_i i o n
   simp only [zsI, zpI, zaT] at h
   obtain ⟨⟨g1, g2⟩, _, rfl⟩ := h
   exact Eq.mpr (by kernel_rfl) (vc_txplain O R i o n (fo_oo O hO) hR (by first | exact g1 | (simp only [zaT]; exact g1)) (by first | exact g2 | (simp only [zaT]; exact g2)))
  ·cases h
def spZt3 (O : OO) (R : OB) (f : FuncId) : Option Sx.Spec := match f with
 | 51 => some (pspec [.agg [.deep inD, .deep ouD, .v]] false (g_txplain O R))
 | f => spZt2 O R f
theorem spZt3_ok (I : Sx.Interp) (O : OO) (hO : O = oo) (R : OB) (hR : R = bO) : ∀ f s, spZt3 O R f = some s → Sx.SpecOK I Try.prog f s := by
 intro f s h
 unfold spZt3 at h
 split at h
 · cases h; exact ok_txplain I O hO R hR
 ·exact spZt2_ok I O hO R hR _ s h
def g_txbytes (O : OO) (R : OB) (ds : List Dt) : zG := match ds with
 | [.node [.deep i, .deep o, .v (.int .i64 n)]] => some ((txW O (i.map vI) (o.map vO) n), [], fun _ => ⟨[.row 3], [(3, .own 5 (.ints .u8 (txZ O R (i.map vI) (o.map vO) n)))]⟩)
 | _ => none
theorem vc_txbytes (O : OO) (R : OB) (i o : List (List DD)) (n : Int) (F : FO O) (hr : R = bO) (g1 : (txW O (i.map vI) (o.map vO) n) = true) :
 let T1 := txZ O R (List.map vI i) (List.map vO o) n; If (txW O (List.map vI i) (List.map vO o) n) (If (!txOk O (List.map vI i) (List.map vO o) n) (True ∧ EqI [] T1 ∧ True) (If (txW
  O (List.map vI i) (List.map vO o) n && txOk O (List.map vI i) (List.map vO o) n) ( (∃ (x : Nat), x ≤ i.length ∧ (yI 0 = yI (iOf x) ∧ yI (iOf i.length) = yI (iOf i.length) ∧ True) ∧
  EqI (plB R (List.map vI i) (List.map vO o) n) (txJ R (List.map vI i) (List.map vO o) n x) ∧ yI n = yI n ∧ Res.deep inD i = Res.deep inD i ∧ Res.deep ouD o = Res.deep ouD o ∧ True) ∧
  ∀ (x : Nat), let T2 := List.map ddI ((i.getD (iOf x).toNat []).getD 34 (DD.n 0)).l; let T3 := bif iLt ((i.getD (iOf x).toNat []).getD 33 (DD.n 0)).i 0 then txJ R (List.map vI i) (List.map vO o) n x else app (txJ R (List.map vI i) (List.map vO o) n x) (R.row ((i.getD (iOf x).toNat []).getD 33 (DD.n 0)).i);
  let T4 := txJ R (List.map vI i) (List.map vO o) n x; x ≤ i.length → If (iLt (iOf x) (iOf i.length)) (If (iLe 0 (iOf x) && (iOf x).toNat.blt i.length) (If (true && Nat.beq 36 36 &&
  (iOf x).toNat.blt i.length) (If (T4.length.ble 1000000 && iLe ((i.getD (iOf x).toNat []).getD 33 (DD.n 0)).i 9223372036854775807) (If (T3.length.ble 1000000 && iLe (iOf
  (Cont.structs [.u64, .u64] T2).n) 9223372036854775807) (∃ (x0 : Nat × Nat), x0.2 ≤ viN (List.map vI i) x0.1 ∧ ((yI 0 = yI (iOf x0.2) ∧ yI (iOf i.length) = yI (iOf i.length) ∧ yI
  (iOf x) = yI (iOf x) ∧ yI (iOf T2.length) = yI (iOf T2.length) ∧ True) ∧ EqI (app T3 (R.row (iOf T2.length))) (txK R (List.map vI i) (List.map vO o) n x0.1 x0.2) ∧ (hEq (i.getD (iOf
  x).toNat [])) ∧ Cont.structs [.u64, .u64] T2 = Cont.structs [.u64, .u64] T2 ∧ yI n = yI n ∧ Res.deep inD i = Res.deep inD i ∧ Res.deep ouD o = Res.deep ouD o ∧ True) ∧ ∀ (x_1 : Nat
  × Nat), x_1.2 ≤ viN (List.map vI i) x_1.1 → x_1.1 = x0.1 → If (iLt (iOf x_1.snd) (iOf (Cont.structs [.u64, .u64] T2).n)) (If (iLe 0 (iOf x_1.snd) && (iOf x_1.2).toNat.blt T2.length)
  (If (true && Nat.beq 2 2 && (iOf x_1.2).toNat.blt T2.length) (If ((txK R (List.map vI i) (List.map vO o) n x_1.1 x_1.2).length.ble 1000000 && inU ((T2.getD (iOf x_1.2).toNat
  []).getD 0 0) 18446744073709551616) (If ((app (txK R (List.map vI i) (List.map vO o) n x_1.1 x_1.2) (u64B ((T2.getD (iOf x_1.2).toNat []).getD 0 0))).length.ble 1000000 && inU
  ((T2.getD (iOf x_1.2).toNat []).getD 1 0) 18446744073709551616) (∃ (x' : Nat × Nat), x'.2 ≤ viN (List.map vI i) x'.1 ∧ x'.1 = x0.1 ∧ (nSub (viN (List.map vI i) x'.1) x'.2).succ ≤
  nSub (viN (List.map vI i) x_1.1) x_1.2 ∧ (yI (i64.wrap (iAdd (iOf x_1.2) 1)) = yI (iOf x'.2) ∧ yI (iOf i.length) = yI (iOf i.length) ∧ yI (iOf x) = yI (iOf x) ∧ yI (iOf
  T2.length) = yI (iOf T2.length) ∧ True) ∧ EqI (app (app (txK R (List.map vI i) (List.map vO o) n x_1.1 x_1.2) (u64B ((T2.getD (iOf x_1.2).toNat []).getD 0 0))) (u64B ((T2.getD (iOf
  x_1.2).toNat []).getD 1 0))) (txK R (List.map vI i) (List.map vO o) n x'.1 x'.2) ∧ (hEq (i.getD (iOf x).toNat [])) ∧ Cont.structs [.u64, .u64] T2 = Cont.structs [.u64, .u64] T2 ∧ yI
  n = yI n ∧ Res.deep inD i = Res.deep inD i ∧ Res.deep ouD o = Res.deep ouD o ∧ True) False) False) False) False) (If ((txK R (List.map vI i) (List.map vO o) n x_1.1
  x_1.2).length.ble 1000000 && inU ((i.getD (iOf x).toNat []).getD 35 (DD.n 0)).i 18446744073709551616) (∃ (x' : Nat), x' ≤ i.length ∧ (nSub i.length x').succ ≤ nSub i.length x ∧ (yI
  (i64.wrap (iAdd (iOf x) 1)) = yI (iOf x') ∧ yI (iOf i.length) = yI (iOf i.length) ∧ True) ∧ EqI (app (txK R (List.map vI i) (List.map vO o) n x_1.1 x_1.2) (u64B ((i.getD
  (iOf x).toNat []).getD 35 (DD.n 0)).i)) (txJ R (List.map vI i) (List.map vO o) n x') ∧ yI n = yI n ∧ Res.deep inD i = Res.deep inD i ∧ Res.deep ouD o = Res.deep ouD o ∧ True)
  False)) False) False) False) False) (True ∧ EqI T4 T1 ∧ True)) False)) False := by
 conv => zeta
 obtain ⟨I, hI⟩ : ∃ I, List.map vI i = I := ⟨_, rfl⟩
 obtain ⟨U, hU⟩ : ∃ U, List.map vO o = U := ⟨_, rfl⟩
 have hIl : I.length = i.length := by rw [← hI, List.length_map]
 have hUl : U.length = o.length := by rw [← hU, List.length_map]
 rw [hI, hU] at g1 ⊢
 obtain ⟨t1, t2, t3, t4, t5⟩ := txW_iff.1 g1
 refine ziT g1 (Sx.if_both (fun k => ⟨trivial, ?_, trivial⟩) (fun k => ?_))
 ·have k : txOk O I U n = false := by simpa using k
  show [] = txZ O R I U n
  unfold txZ; rw [k]; rfl
 have k : txOk O I U n = true := by simpa using k
 obtain ⟨k1, k2, k3, k4, k5, k6⟩ := txOk_iff.1 k
 refine ziT (by rw [g1, k]; rfl) ⟨⟨0, Nat.zero_le _, (by repeat' (first | exact True.intro | exact rfl | refine ⟨?_, ?_⟩)), ?_, (by repeat' (first | exact True.intro | exact rfl | refine ⟨?_, ?_⟩))⟩, fun x x1 => ?_⟩
 ·show plB R I U n = plB R I U n ++ []
  rw [List.append_nil]
 have hn : (iOf x).toNat = x := by simp only [zUn, ztN]
 rw [hn]
 have lp := txJ_len hr t1 k x
 refine Sx.if_both (fun f => ?_) (fun f => ?_)
 ·simp only [Bz, Sx.Cont.n, zUn] at f
  have hx : x < i.length := by omega
  have hb : x.blt i.length = true := by rw [Nat.blt_eq]; exact hx
  have w1 : i64.wrap (iAdd (iOf x) 1) = iOf (x + 1) := by simp only [zUn]; rw [IntKind.wrap_i64]; omega
  obtain ⟨v, hv⟩ : ∃ v, vI (i.getD x []) = v := ⟨_, rfl⟩
  have hxI : x < I.length := by omega
  have hvI : viAt I x = v := by rw [← hI, viAt_map hx, hv]
  have e32 : ((i.getD x []).getD 32 (DD.n 0)).i = v.n := by rw [← hv]; rfl
  have e33 : ((i.getD x []).getD 33 (DD.n 0)).i = v.b := by rw [← hv]; rfl
  have e34 : List.map ddI ((i.getD x []).getD 34 (DD.n 0)).l = v.g := by rw [← hv]; rfl
  have e35 : ((i.getD x []).getD 35 (DD.n 0)).i = v.s := by rw [← hv]; rfl
  have eK : tabI (hF (i.getD x [])) 33 = kI v := by rw [← hv, kI_vI]
  have eH : tabI (fnA (AV (hF (i.getD x [])))) 32 = v.h := by rw [tab_fnA, ← hv]; rfl
  have eA : AV (hF (i.getD x [])) = Array.mk (v.h.map (Value.int .u8)) := by rw [← hv]; rfl
  obtain ⟨_, _, q1, q2, q3⟩ := txo_in k5 hxI
  obtain ⟨w2, w3, w4, w5, w6⟩ := inW_iff.1 (List.all_eq_true.1 t1 _ (viAt_mem hxI))
  rw [hvI] at q1 q2 q3 w2 w3 w4 w5
  have hN : viN I x = v.g.length := by unfold viN; rw [hvI]
  have rb := rowT_len hr v.b
  have hq := hEq_ok (i.getD x [])
  rw [hb, w1, e33, e34, e35, show iLt v.b 0 = false by simp only [Bz, Sx.Cont.n]; omega, cond_false]
  refine ziT (by simp only [Bz, Sx.Cont.n, zUn]; exact ⟨by omega, trivial⟩) (ziT rfl (ziT (by simp only [Bz, Sx.Cont.n, zUn]; omega) (ziT (by simp only [Bz, Sx.Cont.n, zUn, zlA]; omega) ⟨(x, 0), Nat.zero_le _, ⟨(by repeat' (first | exact True.intro | exact rfl | refine ⟨?_, ?_⟩)), ?_, hq, (by repeat' (first | exact True.intro | exact rfl | refine ⟨?_, ?_⟩))⟩, fun y y1 y2 => ?_⟩)))
  ·show txJ R I U n x ++ R.row v.b ++ R.row (v.g.length : Int) = txJ R I U n x ++ R.row (viAt I x).b ++ R.row ((viAt I x).g.length : Int) ++ []
   rw [hvI, List.append_nil]
  obtain ⟨y0, q⟩ := y
  obtain rfl : y0 = x := y2
  replace y1 : q ≤ viN I y0 := y1
  have hm : (iOf (y0, q).2).toNat = q := by simp only [zUn, ztN]
  rw [hm]
  dsimp only
  have lq := txK_len hr t1 k hxI q
  refine Sx.if_both (fun e => ?_) (fun e => ?_)
  ·simp only [Bz, Sx.Cont.n, zUn] at e
   have hqg : q < v.g.length := by omega
   have hbq : q.blt v.g.length = true := by rw [Nat.blt_eq]; exact hqg
   have w7 : i64.wrap (iAdd (iOf q) 1) = iOf (q + 1) := by simp only [zUn]; rw [IntKind.wrap_i64]; omega
   have sg : sgW (v.g.getD q []) = true := by
    rw [List.getD_eq_getElem?_getD, List.getElem?_eq_getElem hqg]
    exact List.all_eq_true.1 w4 _ (List.getElem_mem hqg)
   unfold sgW at sg
   rw [zaT, zaT] at sg
   obtain ⟨⟨s0, s1⟩, s2⟩ := sg
   rw [hbq, w7]
   refine ziT (by simp only [Bz, Sx.Cont.n, zUn]; exact ⟨by omega, trivial⟩) (ziT rfl (ziT (by rw [s1, Bool.and_true, Nat.ble_eq]; omega) (ziT (by rw [s2, Bool.and_true, Nat.ble_eq]; simp only [zUn, zlA, u64B_len]; omega) ⟨(y0, q + 1), (show q + 1 ≤ viN I y0 by omega), rfl, (by simp only [zUn]; omega), (by repeat' (first | exact True.intro | exact rfl | refine ⟨?_, ?_⟩)), ?_, hq, (by repeat' (first | exact True.intro | exact rfl | refine ⟨?_, ?_⟩))⟩)))
   show txK R I U n y0 q ++ u64B _ ++ u64B _ = txK R I U n y0 (q + 1)
   rw [txK_snoc R I U n (by omega), hvI]
  ·simp only [Bz, Sx.Cont.n, zUn] at e
   obtain rfl : q = viN I y0 := by omega
   refine ziT (by rw [w5, Bool.and_true, Nat.ble_eq]; omega) ⟨y0 + 1, hx, (by simp only [zUn]; omega), (by repeat' (first | exact True.intro | exact rfl | refine ⟨?_, ?_⟩)), ?_, (by repeat' (first | exact True.intro | exact rfl | refine ⟨?_, ?_⟩))⟩
   show txK R I U n y0 (viN I y0) ++ u64B v.s = txJ R I U n (y0 + 1)
   rw [txJ_snoc R U n hxI, hvI]
 ·simp only [Bz, Sx.Cont.n, zUn] at f
  obtain rfl : x = i.length := by omega
  refine ⟨trivial, ?_, trivial⟩
  show txJ R I U n i.length = txZ O R I U n
  unfold txZ txB
  rw [k, hIl]; rfl
theorem ok_txbytes (I : Sx.Interp) (O : OO) (hO : O = oo) (R : OB) (hR : R = bO) : Sx.SpecOK I Try.prog 26 (pspec [.agg [.deep inD, .deep ouD, .v]] false (g_txbytes O R)) := by
 refine spec_pAI (spZt3_ok I O hO R hR) (by kernel_rfl) (fun ds => match ds with | [.node [.deep i, .deep o, .v (.int .i64 n)]] => [⟨Nat, [1, 14, 15], [(3, 5, .ints .u8 [])], fun B j => [(3, .row B), (16, .v (.int .i64 (j : Nat)))], fun B j => [(B, .own 5 (.ints .u8 (txJ R (i.map vI) (o.map vO) n j)))], fun j => j ≤ i.length, fun j => i.length - j, 0⟩, ⟨Nat × Nat, [1, 5, 14, 15, 16, 32, 33], [(3, 5, .ints .u8 [])], fun B x => [(3, .row B), (34, .v (.int .i64 (x.2 : Nat)))], fun B x => [(B, .own 5 (.ints .u8 (txK R (i.map vI) (o.map vO) n x.1 x.2)))], fun x => x.2 ≤ viN (i.map vI) x.1, fun x => viN (i.map vI) x.1 - x.2, .fix Prod.fst⟩] | _ => []) (fun ds => match ds with | [.node [.deep i, .deep o, .v (.int .i64 n)]] => [(2, 5, .ints .u8 [])] | _ => []) Try.func26 (by kernel_rfl) (by kernel_rfl) rfl Try.ntmps26 (by decide) ?_ ?_
 ·intro ds p bs F h
  unfold g_txbytes at h
  split at h
  ·rename_i i o n
   simp only [zsI, zpI] at h
   obtain ⟨_, _, rfl⟩ := h
   kernel_rfl
  ·cases h
 ·intro ds bs F hl h
  unfold g_txbytes at h
  split at h
  ·rename_i i o n
   simp only [zsI, zpI, zaT] at h
   obtain ⟨g1, _, rfl⟩ := h
   exact Eq.mpr (by kernel_rfl) (vc_txbytes O R i o n (fo_oo O hO) hR (by first | exact g1 | (simp only [zaT]; exact g1)))
  ·cases h
def g_txid (O : OO) (R : OB) (ds : List Dt) : zG := match ds with
 | [.node [.deep i, .deep o, .v (.int .i64 n)]] => some ((txW O (i.map vI) (o.map vO) n) && (txOk O (i.map vI) (o.map vO) n), [], fun _ => ⟨[.v (.agg (AV (O.tag txS [plB R (i.map vI) (o.map vO) n])))], []⟩)
 | _ => none
theorem vc_txid (O : OO) (R : OB) (i o : List (List DD)) (n : Int) (F : FO O) (hr : R = bO) (g1 : (txW O (i.map vI) (o.map vO) n) = true) (g2 : (txOk O (i.map vI) (o.map vO) n) = true) :
 let T1 := AV (O.tag (ByteArray.mk (Array.mk [116, 120])) [plB R (List.map vI i) (List.map vO o) n]); If (txW O (List.map vI i) (List.map vO o) n) (If (!txOk O (List.map vI i)
  (List.map vO o) n) (Value.agg (Array.mk (List.replicate 32 (Value.int .u8 0))) = Value.agg T1 ∧ True ∧ True) (If (txW O (List.map vI i) (List.map vO o) n && txOk O (List.map vI i)
  (List.map vO o) n) (If ((List.foldl (fun (n : Nat) (p : List Int) => nAdd n (nAdd 8 p.length)) 10 [plB R (List.map vI i) (List.map vO o) n]).ble 1099511627776) (Value.agg T1 =
  Value.agg T1 ∧ True ∧ True) False) False)) False := by
 conv => zeta
 obtain ⟨I, hI⟩ : ∃ I, List.map vI i = I := ⟨_, rfl⟩
 obtain ⟨U, hU⟩ : ∃ U, List.map vO o = U := ⟨_, rfl⟩
 have hIl : I.length = i.length := by rw [← hI, List.length_map]
 have hUl : U.length = o.length := by rw [← hU, List.length_map]
 rw [hI, hU] at g1 g2 ⊢
 have lb := plB_len hr (txW_iff.1 g1).1 g2
 rw [g1, g2]
 refine ziT rfl (Sx.if_false rfl (ziT rfl (ziT ?_ ⟨rfl, trivial, trivial⟩)))
 show Nat.ble (10 + (8 + (plB R I U n).length)) 1099511627776 = true
 rw [Nat.ble_eq]; omega
theorem ok_txid (I : Sx.Interp) (O : OO) (hO : O = oo) (R : OB) (hR : R = bO) : Sx.SpecOK I Try.prog 29 (pspec [.agg [.deep inD, .deep ouD, .v]] false (g_txid O R)) := by
 refine spec_pI (spZt3_ok I O hO R hR) (by kernel_rfl) (fun _ => []) Try.func29 (by kernel_rfl) (by kernel_rfl) rfl Try.ntmps29 (by decide) ?_ ?_
 ·intro ds p bs F h
  unfold g_txid at h
  split at h
  ·rename_i i o n
   simp only [zsI, zpI] at h
   obtain ⟨_, _, rfl⟩ := h
   kernel_rfl
  ·cases h
 ·intro ds bs F hl h
  unfold g_txid at h
  split at h
  ·rename_i i o n
   simp only [zsI, zpI, zaT] at h
   obtain ⟨⟨g1, g2⟩, _, rfl⟩ := h
   exact Eq.mpr (by kernel_rfl) (vc_txid O R i o n (fo_oo O hO) hR (by first | exact g1 | (simp only [zaT]; exact g1)) (by first | exact g2 | (simp only [zaT]; exact g2)))
  ·cases h
def spZt4 (O : OO) (R : OB) (f : FuncId) : Option Sx.Spec := match f with
 | 26 => some (pspec [.agg [.deep inD, .deep ouD, .v]] false (g_txbytes O R))
 | 29 => some (pspec [.agg [.deep inD, .deep ouD, .v]] false (g_txid O R))
 | f => spZt3 O R f
theorem spZt4_ok (I : Sx.Interp) (O : OO) (hO : O = oo) (R : OB) (hR : R = bO) : ∀ f s, spZt4 O R f = some s → Sx.SpecOK I Try.prog f s := by
 intro f s h
 unfold spZt4 at h
 split at h
 · cases h; exact ok_txbytes I O hO R hR
 · cases h; exact ok_txid I O hO R hR
 ·exact spZt3_ok I O hO R hR _ s h
end Go.Proofs.Ytaohpdhhbnempaa
