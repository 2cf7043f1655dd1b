/- Transactions, plainly: what is laid is read. No program in sight. -/
import Derived.Test.YtaohpdhhbnempaaTq
namespace Go.Proofs.Ytaohpdhhbnempaa
open Go Go.RowKit Go.Lib Ckp Cfd Cpd Sx
set_option linter.unusedVariables false
set_option linter.unusedSimpArgs false
def bare (v : VI) : VI := ⟨v.h, v.n, 0, [], 0⟩
def cJ (v : VI) : List DD := cI (bare v)
def rdI (R : OB) : Nat → List Int → List VI × List Int
 | 0, l => ([], l)
 | k + 1, l => (⟨l.take 32, R.nV (l.drop 32), 0, [], 0⟩ :: (rdI R k (R.nR (l.drop 32))).1, (rdI R k (R.nR (l.drop 32))).2)
def rdOb (R : OB) (l : List Int) : List Int := (R.nR (R.nR l)).take (R.nV (R.nR l)).toNat
def rdOr (R : OB) (l : List Int) : List Int := (R.nR (R.nR l)).drop (R.nV (R.nR l)).toNat
def rdO (R : OB) : Nat → List Int → List VO × List Int
 | 0, l => ([], l)
 | k + 1, l => (⟨R.nV l, lkOf R (rdOb R l)⟩ :: (rdO R k (rdOr R l)).1, (rdO R k (rdOr R l)).2)
def rdS (R : OB) : Nat → List Int → List (List Int) × List Int
 | 0, l => ([], l)
 | k + 1, l => ([u64V R l false, u64V R (u64R l false) false] :: (rdS R k (u64R (u64R l false) false)).1, (rdS R k (u64R (u64R l false) false)).2)
def rdW (R : OB) : List VI → List Int → List VI
 | [], _ => []
 | v :: I, l => ⟨v.h, v.n, R.nV l, (rdS R (R.nV (R.nR l)).toNat (R.nR (R.nR l))).1, u64V R (rdS R (R.nV (R.nR l)).toNat (R.nR (R.nR l))).2 false⟩ :: rdW R I (u64R (rdS R (R.nV (R.nR l)).toNat (R.nR (R.nR l))).2 false)
def tI0 (R : OB) (b : List Int) : List VI × List Int := rdI R (R.nV b).toNat (R.nR b)
def tO0 (R : OB) (b : List Int) : List VO × List Int := rdO R (R.nV (tI0 R b).2).toNat (R.nR (tI0 R b).2)
def tN (R : OB) (b : List Int) : Int := R.nV (tO0 R b).2
def tI (R : OB) (b : List Int) : List VI := rdW R (tI0 R b).1 (R.nR (tO0 R b).2)
def tO (R : OB) (b : List Int) : List VO := (tO0 R b).1
def txIs (O : OO) (R : OB) (b : List Int) : Bool := txOk O (tI R b) (tO R b) (tN R b) && txW O (tI R b) (tO R b) (tN R b) && decide (txB R (tI R b) (tO R b) (tN R b) = b)
def txT (R : OB) (I : List VI) (j : Nat) : List Int := (I.drop j).flatMap (wiB R)
def txS' (R : OB) (I : List VI) (j q : Nat) : List Int := ((viAt I j).g.drop q).flatMap siB ++ (u64B (viAt I j).s ++ txT R I (j + 1))
def txU (R : OB) (I : List VI) (U : List VO) (n : Int) (j : Nat) : List Int := (U.drop j).flatMap (ouP R) ++ (R.row n ++ txT R I 0)
def txA (R : OB) (I : List VI) (U : List VO) (n : Int) (j : Nat) : List Int := (I.drop j).flatMap (inP R) ++ (R.row (U.length : Int) ++ txU R I U n 0)
def viG (I : List VI) (j q : Nat) : List (List Int) := (viAt I j).g.take q
def insL (I : List VI) (j : Nat) : List (List DD) := (I.take j).map cI ++ (I.drop j).map cJ
theorem txB_eq (R : OB) (I : List VI) (U : List VO) (n : Int) : txB R I U n = R.row (I.length : Int) ++ txA R I U n 0 := by
 unfold txB txJ plB plO plI txA txU txT
 simp only [List.take_length, List.drop_zero, List.append_assoc]
theorem txA_at (R : OB) {I : List VI} (U : List VO) (n : Int) {j : Nat} (h : j < I.length) : txA R I U n j = (viAt I j).h ++ (R.row (viAt I j).n ++ txA R I U n (j + 1)) := by
 unfold txA
 rw [drop_at ⟨[], 0, 0, [], 0⟩ h, List.flatMap_cons]
 show inP R (viAt I j) ++ _ ++ _ = _
 unfold inP
 simp only [List.append_assoc]
theorem txA_end (R : OB) (I : List VI) (U : List VO) (n : Int) : txA R I U n I.length = R.row (U.length : Int) ++ txU R I U n 0 := by
 unfold txA
 rw [List.drop_length]; rfl
theorem txU_at (R : OB) (I : List VI) {U : List VO} (n : Int) {j : Nat} (h : j < U.length) : txU R I U n j = R.row (voAt U j).a ++ (R.row ((lkB R (voAt U j).b).length : Int) ++ (lkB R (voAt U j).b ++ txU R I U n (j + 1))) := by
 unfold txU
 rw [drop_at ⟨0, []⟩ h, List.flatMap_cons]
 show (R.row (voAt U j).a ++ R.row ((lkB R (voAt U j).b).length : Int) ++ lkB R (voAt U j).b) ++ _ ++ _ = _
 simp only [List.append_assoc]
theorem txU_end (R : OB) (I : List VI) (U : List VO) (n : Int) : txU R I U n U.length = R.row n ++ txT R I 0 := by
 unfold txU
 rw [List.drop_length]; rfl
theorem txT_at (R : OB) {I : List VI} {j : Nat} (h : j < I.length) : txT R I j = R.row (viAt I j).b ++ (R.row ((viAt I j).g.length : Int) ++ txS' R I j 0) := by
 unfold txT txS'
 rw [drop_at ⟨[], 0, 0, [], 0⟩ h, List.flatMap_cons]
 show (R.row (viAt I j).b ++ R.row ((viAt I j).g.length : Int) ++ (viAt I j).g.flatMap siB ++ u64B (viAt I j).s) ++ txT R I (j + 1) = _
 simp only [List.append_assoc, List.drop_zero]
theorem txT_end (R : OB) (I : List VI) : txT R I I.length = [] := by
 unfold txT
 rw [List.drop_length]; rfl
theorem txS_at (R : OB) (I : List VI) {j q : Nat} (h : q < viN I j) : txS' R I j q = u64B (((viAt I j).g.getD q []).getD 0 0) ++ (u64B (((viAt I j).g.getD q []).getD 1 0) ++ txS' R I j (q + 1)) := by
 unfold txS'
 rw [drop_at [] h, List.flatMap_cons]
 show (u64B _ ++ u64B _) ++ _ ++ _ = _
 simp only [List.append_assoc]
theorem txS_end (R : OB) (I : List VI) (j : Nat) : txS' R I j (viN I j) = u64B (viAt I j).s ++ txT R I (j + 1) := by
 unfold txS' viN
 rw [List.drop_length]; rfl
theorem txT_len {O : OO} {R : OB} (hr : R = bO) {I : List VI} (hk : insOk I = true) (hl : I.length ≤ 64) (j : Nat) : (txT R I j).length ≤ 14080 := by
 have d := flat_len (g := wiB R) (c := 220) (l := I.drop j) fun v hv => by
  obtain ⟨x, hx, rfl⟩ := mem_viAt (List.mem_of_mem_drop hv)
  exact wiB_len hr (txo_in hk hx).2.2.2.2
 rw [List.length_drop] at d
 unfold txT; omega
theorem txS_len {R : OB} (hr : R = bO) {I : List VI} (hk : insOk I = true) (hl : I.length ≤ 64) {j : Nat} (hj : j < I.length) (q : Nat) : (txS' R I j q).length ≤ 14280 := by
 have a := txT_len (O := oo) hr hk hl (j + 1)
 have b := u64B_len (viAt I j).s
 have w := (txo_in hk hj).2.2.2.2
 have d := flat_len (g := siB) (c := 16) (l := (viAt I j).g.drop q) fun x _ => Nat.le_of_eq (siB_len x)
 rw [List.length_drop] at d
 unfold txS'
 simp only [zlA]; omega
theorem txU_len {O : OO} {R : OB} (hr : R = bO) {I : List VI} {U : List VO} {n : Int} (hk : txOk O I U n = true) (j : Nat) : (txU R I U n j).length ≤ 50314 := by
 obtain ⟨k1, k2, k3, k4, k5, k6⟩ := txOk_iff.1 hk
 have a := txT_len (O := O) hr k5 k2 0
 have b := rowT_len hr n
 have d := flat_len (g := ouP R) (c := 566) (l := U.drop j) fun v hv => by
  obtain ⟨x, hx, rfl⟩ := mem_voAt (List.mem_of_mem_drop hv)
  exact ouP_len hr (txo_ou k6 hx).2.2
 rw [List.length_drop] at d
 unfold txU
 simp only [zlA]; omega
theorem txA_len {O : OO} {R : OB} (hr : R = bO) {I : List VI} {U : List VO} {n : Int} (h : I.all (inW O) = true) (hk : txOk O I U n = true) (j : Nat) : (txA R I U n j).length ≤ 53012 := by
 obtain ⟨k1, k2, k3, k4, k5, k6⟩ := txOk_iff.1 hk
 have a := txU_len hr hk 0
 have b := rowT_len hr (U.length : Int)
 have d := flat_len (g := inP R) (c := 42) (l := I.drop j) fun v hv => by
  have h1 := (inW_iff.1 (List.all_eq_true.1 h v (List.mem_of_mem_drop hv))).1
  have b := rowT_len hr v.n
  unfold inP
  rw [zlA]; omega
 rw [List.length_drop] at d
 unfold txA
 simp only [zlA]; omega
theorem tab_extT {f g : Nat → Int} : ∀ n : Nat, (∀ i, i < n → f i = g i) → tabI f n = tabI g n
 | 0, _ => rfl
 | n + 1, h => by rw [tabI, tabI, tab_extT n fun i hi => h i (by omega), h n (by omega)]
theorem hsh_fwd {h : List Int} (hl : h.length = 32) (t : List Int) : hshN (h ++ t) false = false ∧ tabI (hsh (h ++ t) false) 32 = h ∧ hshR (h ++ t) false = t := by
 have e : hshB (h ++ t) false = false := by
  show iLt ((h ++ t).length : Int) 32 = false
  simp only [Bz, Sx.Cont.n, zlA]; omega
 refine ⟨?_, ?_, ?_⟩
 ·unfold hshN; rw [e]; rfl
 ·have e2 : tabI (hsh (h ++ t) false) 32 = tabI (fun i => h.getD i 0) 32 := by
   refine tab_extT 32 fun i hi => ?_
   unfold hsh
   rw [e, cond_false, List.take_left' hl]
   unfold hashF
   rw [show Nat.blt i h.length = true by rw [Nat.blt_eq]; omega]; rfl
  rw [e2]; exact tab_self hl
 ·unfold hshR; rw [e, cond_false, List.drop_left' hl]
theorem rdI_fwd {R : OB} (hr : R = bO) : ∀ (I : List VI) (t : List Int), (∀ v ∈ I, v.h.length = 32 ∧ 0 ≤ v.n ∧ v.n < 64) → rdI R I.length (I.flatMap (inP R) ++ t) = (I.map bare, t)
 | [], t, _ => rfl
 | v :: I, t, h => by
  obtain ⟨h1, h2, h3⟩ := h v (List.mem_cons_self ..)
  have e : (v :: I).flatMap (inP R) ++ t = v.h ++ (R.row v.n ++ (I.flatMap (inP R) ++ t)) := by
   rw [List.flatMap_cons]; unfold inP; simp only [List.append_assoc]
  obtain ⟨_, p2, p3⟩ := num_fwd hr (n := v.n) h2 (by omega) (I.flatMap (inP R) ++ t)
  rw [e, List.length_cons, rdI, List.take_left' h1, List.drop_left' h1, p2, p3, rdI_fwd hr I t fun w hw => h w (List.mem_cons_of_mem _ hw)]; rfl
theorem rdO_fwd {O : OO} {R : OB} (hr : R = bO) : ∀ (U : List VO) (t : List Int), (∀ v ∈ U, 0 ≤ v.a ∧ v.a ≤ 1125899906842624 ∧ lkOk O v.b = true ∧ lkW v.b = true) → rdO R U.length (U.flatMap (ouP R) ++ t) = (U, t)
 | [], t, _ => rfl
 | v :: U, t, h => by
  obtain ⟨h1, h2, h3, h4⟩ := h v (List.mem_cons_self ..)
  have e : (v :: U).flatMap (ouP R) ++ t = R.row v.a ++ (R.row ((lkB R v.b).length : Int) ++ (lkB R v.b ++ (U.flatMap (ouP R) ++ t))) := by
   rw [List.flatMap_cons]; unfold ouP; simp only [List.append_assoc]
  have lb := lkB_len hr h3
  obtain ⟨_, p2, p3⟩ := num_fwd hr (n := v.a) h1 (by omega) (R.row ((lkB R v.b).length : Int) ++ (lkB R v.b ++ (U.flatMap (ouP R) ++ t)))
  obtain ⟨_, q2, q3⟩ := num_fwd hr (n := ((lkB R v.b).length : Int)) (by omega) (by omega) (lkB R v.b ++ (U.flatMap (ouP R) ++ t))
  have e1 : rdOb R ((v :: U).flatMap (ouP R) ++ t) = lkB R v.b := by unfold rdOb; rw [e, p3, q2, q3, ztN, List.take_left]
  have e2 : rdOr R ((v :: U).flatMap (ouP R) ++ t) = U.flatMap (ouP R) ++ t := by unfold rdOr; rw [e, p3, q2, q3, ztN, List.drop_left]
  rw [List.length_cons, rdO, e1, e2, (lk_fwd hr h3 h4).2, rdO_fwd hr U t fun w hw => h w (List.mem_cons_of_mem _ hw), e, p2]
theorem two' {x : List Int} (h : x.length = 2) : x = [x.getD 0 0, x.getD 1 0] := by
 match x, h with
 | [a, b], _ => rfl
theorem sgW_iff {g : List Int} : sgW g = true ↔ g.length = 2 ∧ inU (g.getD 0 0) 18446744073709551616 = true ∧ inU (g.getD 1 0) 18446744073709551616 = true := by
 unfold sgW
 simp only [zaT, Nat.beq_eq, and_assoc]
theorem rdS_fwd {R : OB} (hr : R = bO) : ∀ (g : List (List Int)) (t : List Int), g.all sgW = true → rdS R g.length (g.flatMap siB ++ t) = (g, t)
 | [], t, _ => rfl
 | x :: g, t, h => by
  rw [List.all_cons, zaT] at h
  obtain ⟨w1, w2, w3⟩ := sgW_iff.1 h.1
  have e : (x :: g).flatMap siB ++ t = u64B (x.getD 0 0) ++ (u64B (x.getD 1 0) ++ (g.flatMap siB ++ t)) := by
   rw [List.flatMap_cons]; show (u64B _ ++ u64B _) ++ _ ++ _ = _; simp only [List.append_assoc]
  obtain ⟨_, p2, p3⟩ := u64_fwd hr w2 (u64B (x.getD 1 0) ++ (g.flatMap siB ++ t))
  obtain ⟨_, q2, q3⟩ := u64_fwd hr w3 (g.flatMap siB ++ t)
  rw [e, List.length_cons, rdS, p2, p3, q2, q3, rdS_fwd hr g t h.2, ← two' w1]
theorem rdW_fwd {R : OB} (hr : R = bO) : ∀ (I : List VI), (∀ v ∈ I, 0 ≤ v.b ∧ v.b < 4 ∧ v.g.length ≤ 12 ∧ v.g.all sgW = true ∧ inU v.s 18446744073709551616 = true) → rdW R (I.map bare) (I.flatMap (wiB R)) = I
 | [], _ => rfl
 | v :: I, h => by
  obtain ⟨h1, h2, h3, h4, h5⟩ := h v (List.mem_cons_self ..)
  have e : (v :: I).flatMap (wiB R) = R.row v.b ++ (R.row (v.g.length : Int) ++ (v.g.flatMap siB ++ (u64B v.s ++ I.flatMap (wiB R)))) := by
   rw [List.flatMap_cons]; unfold wiB
   obtain ⟨T, hT⟩ : ∃ T, List.flatMap (fun v => R.row v.b ++ R.row (v.g.length : Int) ++ List.flatMap siB v.g ++ u64B v.s) I = T := ⟨_, rfl⟩
   simp only [List.append_assoc]
  obtain ⟨_, p2, p3⟩ := num_fwd hr (n := v.b) h1 (by omega) (R.row (v.g.length : Int) ++ (v.g.flatMap siB ++ (u64B v.s ++ I.flatMap (wiB R))))
  obtain ⟨_, q2, q3⟩ := num_fwd hr (n := (v.g.length : Int)) (by omega) (by omega) (v.g.flatMap siB ++ (u64B v.s ++ I.flatMap (wiB R)))
  obtain ⟨_, u2, u3⟩ := u64_fwd hr h5 (I.flatMap (wiB R))
  rw [e, List.map_cons, rdW, p2, p3, q2, q3, ztN, rdS_fwd hr _ _ h4, u2, u3, rdW_fwd hr I fun w hw => h w (List.mem_cons_of_mem _ hw)]; rfl
theorem tx_fwd {O : OO} {R : OB} (hr : R = bO) {I : List VI} {U : List VO} {n : Int} (hk : txOk O I U n = true) (hw : txW O I U n = true) :
  txIs O R (txB R I U n) = true ∧ tI R (txB R I U n) = I ∧ tO R (txB R I U n) = U ∧ tN R (txB R I U n) = n := by
 obtain ⟨k1, k2, k3, k4, k5, k6⟩ := txOk_iff.1 hk
 obtain ⟨w1, w2, w3, w4, w5⟩ := txW_iff.1 hw
 obtain ⟨_, p2, p3⟩ := num_fwd hr (n := (I.length : Int)) (by omega) (by omega) (txA R I U n 0)
 rw [← txB_eq] at p2 p3
 have hI : ∀ v ∈ I, inW O v = true := List.all_eq_true.1 w1
 have a1 : tI0 R (txB R I U n) = (I.map bare, R.row (U.length : Int) ++ txU R I U n 0) := by
  unfold tI0
  rw [p2, p3, ztN]
  exact rdI_fwd hr I _ fun v hv => by
   obtain ⟨x, hx, rfl⟩ := mem_viAt hv
   obtain ⟨q1, q2, _⟩ := txo_in k5 hx
   exact ⟨(inW_iff.1 (hI _ hv)).1, q1, q2⟩
 obtain ⟨_, s2, s3⟩ := num_fwd hr (n := (U.length : Int)) (by omega) (by omega) (txU R I U n 0)
 have a2 : tO0 R (txB R I U n) = (U, R.row n ++ txT R I 0) := by
  unfold tO0
  rw [a1]
  show rdO R (R.nV (R.row (U.length : Int) ++ txU R I U n 0)).toNat (R.nR (R.row (U.length : Int) ++ txU R I U n 0)) = _
  rw [s2, s3, ztN]
  exact rdO_fwd hr U _ fun v hv => by
   obtain ⟨x, hx, rfl⟩ := mem_voAt hv
   obtain ⟨q1, q2, q3⟩ := txo_ou k6 hx
   exact ⟨q1, q2, q3, (ouW_iff.1 (List.all_eq_true.1 w2 _ hv)).1⟩
 obtain ⟨_, t2, t3⟩ := num_fwd hr (n := n) k4 w3 (txT R I 0)
 have eN : tN R (txB R I U n) = n := by unfold tN; rw [a2]; exact t2
 have eO : tO R (txB R I U n) = U := by unfold tO; rw [a2]
 have eI : tI R (txB R I U n) = I := by
  unfold tI
  rw [a1, a2]
  show rdW R (I.map bare) (R.nR (R.row n ++ txT R I 0)) = I
  rw [t3]
  exact rdW_fwd hr I fun v hv => by
   obtain ⟨_, _, g1, g2, _⟩ := inW_iff.1 (hI _ hv)
   obtain ⟨x, hx, rfl⟩ := mem_viAt hv
   obtain ⟨_, _, q1, q2, q3⟩ := txo_in k5 hx
   exact ⟨q1, q2, q3, g1, g2⟩
 refine ⟨?_, eI, eO, eN⟩
 unfold txIs
 rw [eI, eO, eN, hk, hw]
 exact decide_eq_true rfl
theorem ddI_n (x : List Int) : ddI (x.map DD.n) = x := by
 unfold ddI
 rw [List.map_map]; exact List.map_id _
theorem cI_getD {v : VI} (h : v.h.length = 32) (c : Nat) : (cI v).getD (32 + c) (.n 0) = [DD.n v.n, .n v.b, .s (v.g.map fun x => x.map DD.n), .n v.s].getD c (.n 0) := by
 unfold cI
 rw [List.getD_eq_getElem?_getD, List.getElem?_append_right (by rw [List.length_map]; omega), List.length_map, h, Nat.add_sub_cancel_left, List.getD_eq_getElem?_getD]
theorem vI_cI {v : VI} (h : v.h.length = 32) : vI (cI v) = v := by
 have e1 : tabI (hF (cI v)) 32 = v.h := by
  have : tabI (hF (cI v)) 32 = tabI (fun i => v.h.getD i 0) 32 := tab_extT 32 fun i hi => by
   unfold hF cI
   rw [List.getD_eq_getElem?_getD, List.getElem?_append_left (by rw [List.length_map]; omega), List.getElem?_map, List.getD_eq_getElem?_getD, List.getElem?_eq_getElem (by omega)]; rfl
  rw [this]; exact tab_self h
 have e2 : ((cI v).getD 32 (.n 0)).i = v.n := by rw [cI_getD h 0]; rfl
 have e3 : ((cI v).getD 33 (.n 0)).i = v.b := by rw [cI_getD h 1]; rfl
 have e4 : ((cI v).getD 34 (.n 0)).l.map ddI = v.g := by
  rw [cI_getD h 2]
  show (v.g.map fun x => x.map DD.n).map ddI = v.g
  rw [List.map_map]
  have : (ddI ∘ fun (x : List Int) => x.map DD.n) = id := funext ddI_n
  rw [this, List.map_id]
 have e5 : ((cI v).getD 35 (.n 0)).i = v.s := by rw [cI_getD h 3]; rfl
 unfold vI
 rw [e1, e2, e3, e4, e5]
theorem vO_cO (v : VO) : vO (cO v) = v := by
 show VO.mk v.a ((v.b.map cB).map vB) = v
 rw [vB_cBs]
theorem vI_cIs {l : List VI} (h : ∀ v ∈ l, v.h.length = 32) : (l.map cI).map vI = l := by
 rw [List.map_map]
 conv => rhs; rw [← List.map_id l]
 exact List.map_congr_left fun v hv => vI_cI (h v hv)
theorem vO_cOs (l : List VO) : (l.map cO).map vO = l := by
 rw [List.map_map]
 have : vO ∘ cO = id := funext vO_cO
 rw [this, List.map_id]
theorem insL_end (I : List VI) : insL I I.length = I.map cI := by
 unfold insL
 rw [List.take_length, List.drop_length, List.map_nil, List.append_nil]
theorem insL_len (I : List VI) (j : Nat) : (insL I j).length = I.length := by
 unfold insL
 rw [zlA, List.length_map, List.length_map, List.length_take, List.length_drop]; omega
theorem insL_at {I : List VI} {x : Nat} (hx : x < I.length) : insL I x = (I.take x).map cI ++ cJ (viAt I x) :: (I.drop (x + 1)).map cJ := by
 unfold insL
 rw [drop_at ⟨[], 0, 0, [], 0⟩ hx, List.map_cons]; rfl
theorem insL_succ {I : List VI} {x : Nat} (hx : x < I.length) : insL I (x + 1) = (I.take x).map cI ++ cI (viAt I x) :: (I.drop (x + 1)).map cJ := by
 unfold insL
 rw [take_snoc' ⟨[], 0, 0, [], 0⟩ hx, List.map_append, List.append_assoc]; rfl
theorem put_mid {A B : List (List DD)} {y : List DD} {x : Nat} (h : A.length = x) (c : Nat) (z : DD) : ddPut (A ++ y :: B) x c z = A ++ padSet y c z :: B := by
 subst h
 unfold ddPut
 rw [List.getD_eq_getElem?_getD, List.getElem?_append_right (Nat.le_refl _), Nat.sub_self, List.getElem?_cons_zero, List.set_append_right _ _ (Nat.le_refl _), Nat.sub_self]; rfl
theorem padSet_app : ∀ (A : List DD) (B : List DD) (c : Nat) (z : DD), padSet (A ++ B) (A.length + c) z = A ++ padSet B c z
 | [], B, c, z => by rw [List.length_nil, Nat.zero_add]; rfl
 | a :: A, B, c, z => by
  rw [List.length_cons, show A.length + 1 + c = (A.length + c) + 1 by omega, List.cons_append, padSet, padSet_app A B c z]; rfl
theorem insL_put {I : List VI} {x : Nat} (hx : x < I.length) (h : (viAt I x).h.length = 32) : ddPut (ddPut (ddPut (insL I x) x 33 (.n (viAt I x).b)) x 34 (.s ((viAt I x).g.map fun x => x.map DD.n))) x 35 (.n (viAt I x).s) = insL I (x + 1) := by
 have hl : ((I.take x).map cI).length = x := by rw [List.length_map, List.length_take]; omega
 have hm : ((viAt I x).h.map DD.n).length = 32 := by rw [List.length_map, h]
 have p := fun B c z => hm ▸ padSet_app ((viAt I x).h.map DD.n) B c z
 rw [insL_at hx, insL_succ hx, put_mid hl, put_mid hl, put_mid hl]
 have e : padSet (padSet (padSet (cJ (viAt I x)) 33 (.n (viAt I x).b)) 34 (.s ((viAt I x).g.map fun x => x.map DD.n))) 35 (.n (viAt I x).s) = cI (viAt I x) := by
  unfold cJ cI bare
  show padSet (padSet (padSet ((viAt I x).h.map DD.n ++ [DD.n (viAt I x).n, .n 0, .s [], .n 0]) (32 + 1) _) (32 + 2) _) (32 + 3) _ = _
  rw [p, p, p]; rfl
 rw [e]
end Go.Proofs.Ytaohpdhhbnempaa
