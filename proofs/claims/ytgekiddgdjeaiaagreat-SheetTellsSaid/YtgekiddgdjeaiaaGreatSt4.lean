/- SheetTells: the walk, by the symbolic machine (printed by genSt4.py; VCs by VcTool). -/
import Derived.Test.YtgekiddgdjeaiaaGreatSh8
import Derived.Test.YtgekiddgdjeaiaaGreatSt3
import Derived.Test.YtgekiddgdjeaiaaGreatSt2
namespace Go.Proofs.YtgekiddgdjeaiaaGreat
open Go.RowKit Go.Lib Ckp Cfd Cpd Sx
set_option linter.unusedVariables false
set_option linter.unusedSimpArgs false
set_option maxRecDepth 1000000
set_option maxHeartbeats 4000000
def agv (a b : List Int) : Bool := decide (a = b)

theorem a7m {h0 h1 rt : Int} {l : List (List Int)} (h : (!ahr h0 h1 rt l) = false) : l.length ≤ 20 := by
 have h : ahr h0 h1 rt l = true := by simpa using h
 unfold ahr at h
 cases c : iLt 20 (l.length : Int)
 ·simp only [Bz, Sx.af.n] at c; omega
 ·rw [c] at h; cases h
theorem bf4 {R : OB} (hr : R = bO) {no h0 h1 rt : Int} {l : List (List Int)} (h : l.length ≤ 20) : (stB R no h0 h1 rt l).length ≤ 1100 := by
 have a := aa2 hr [no, h0, h1, rt, (l.length : Int)]
 have c := ajd hr l
 simp only [List.length_cons, List.length_nil] at a
 unfold stB
 cases uh 0 9223372036854775807 [no, h0, h1, rt, (l.length : Int)] <;> cases abg l <;> simp only [cond_true, cond_false, List.length_nil, zlA] <;> omega
def alv (O : OO) (R : OB) (ds : List Dt) : zG := match ds with
 | [.ints a, .ints b] => some ((Nat.ble a.length 9223372036854775807), [], fun _ => ⟨[.v (.bool (agv a b))], []⟩)
 | _ => none
theorem bcx (O : OO) (R : OB) (a b : List Int) (F : FO O) (hr : R = bO) (h0 : (Nat.ble a.length 9223372036854775807) = true) :
 If (qc (iOf a.length) (iOf b.length)) (vB false = vB (agv a b) ∧ True ∧ True) ((∃ (x : Nat), (x ≤ a.length ∧ a.length = b.length ∧ agv (List.take x a) (List.take x b) = true) ∧ (vI 0 = vI (iOf x) ∧ True) ∧ EqI a a ∧ EqI b b ∧ True) ∧ ∀ (x : Nat), x ≤ a.length ∧ a.length = b.length ∧ agv (List.take x a) (List.take x b) = true → If (iLt (iOf x) (iOf (af.ints .u8 a).n)) (If (iLe 0 (iOf x) && (iOf x).toNat.blt a.length) (If (true && Nat.beq 1 1 && (iOf x).toNat.blt a.length) (If (iLe 0 (iOf x) && (iOf x).toNat.blt b.length) (If (true && Nat.beq 1 1 && (iOf x).toNat.blt b.length) (If (qc (a.getD (iOf x).toNat 0) (b.getD (iOf x).toNat 0)) (vB false = vB (agv a b) ∧ True ∧ True) (∃ (x' : Nat), (x' ≤ a.length ∧ a.length = b.length ∧ agv (List.take x' a) (List.take x' b) = true) ∧ (iy a.length x').succ ≤ iy a.length x ∧ (vI (IntKind.i64.wrap (dh (iOf x) 1)) = vI (iOf x') ∧ True) ∧ EqI a a ∧ EqI b b ∧ True)) False) False) False) False) (vB true = vB (agv a b) ∧ True ∧ True)) := by
 have eqd : ∀ x y : List Int, agv x y = true ↔ x = y := fun x y => by unfold agv; rw [decide_eq_true_eq]
 refine ae (fun d => ?_) (fun d => ?_)
 ·simp only [Bz, Sx.af.n, zUn] at d
  refine ⟨?_, trivial, trivial⟩
  rw [show agv a b = false by unfold agv; rw [decide_eq_false_iff_not]; intro e; subst e; exact absurd rfl d]
 simp only [Bz, Sx.af.n, zUn] at d
 have hl : a.length = b.length := by omega
 have h0' := zbL h0
 refine ⟨⟨0, ⟨Nat.zero_le _, hl, by rw [eqd]; rfl⟩, ⟨rfl, trivial⟩, rfl, rfl, trivial⟩, fun x ⟨x1, x2, x3⟩ => ?_⟩
 have hn : (iOf x).toNat = x := by simp only [zUn, ztN]
 rw [eqd] at x3
 rw [hn]
 refine ae (fun e => ?_) (fun e => ?_)
 ·simp only [Bz, Sx.af.n, zUn] at e
  have ha : x < a.length := by omega
  have hb : x < b.length := by omega
  have ba : x.blt a.length = true := by rw [Nat.blt_eq]; exact ha
  have bb : x.blt b.length = true := by rw [Nat.blt_eq]; exact hb
  have w1 : IntKind.i64.wrap (dh (iOf x) 1) = iOf (x + 1) := by simp only [zUn]; rw [IntKind.wrap_i64]; omega
  rw [ba, bb, w1]
  refine ziT (by simp only [Bz, Sx.af.n, zUn]; exact ⟨by omega, trivial⟩) (ziT rfl (ziT (by simp only [Bz, Sx.af.n, zUn]; exact ⟨by omega, trivial⟩) (ziT rfl (ae (fun f => ?_) (fun f => ?_)))))
  ·simp only [Bz, Sx.af.n] at f
   refine ⟨?_, trivial, trivial⟩
   rw [show agv a b = false by unfold agv; rw [decide_eq_false_iff_not]; intro e; subst e; exact absurd rfl f]
  ·simp only [Bz, Sx.af.n] at f
   refine ⟨x + 1, ⟨ha, hl, ?_⟩, by simp only [zUn]; omega, ⟨rfl, trivial⟩, rfl, rfl, trivial⟩
   rw [eqd, abm 0 ha, abm 0 hb, x3]
   rw [show a.getD x 0 = b.getD x 0 by omega]
 ·simp only [Bz, Sx.af.n, zUn] at e
  obtain rfl : x = a.length := by omega
  refine ⟨?_, trivial, trivial⟩
  rw [List.take_length, hl, List.take_length] at x3
  rw [(eqd a b).2 x3]
theorem bes (I : Sx.Interp) (O : OO) (hO : O = oo) (R : OB) (hR : R = bO) : ag I Tryz.prog 27 (au [.ro .u8, .ro .u8] false (alv O R)) := by
 refine o8 (bhy I O hO R hR) (by kernel_rfl) (fun ds => match ds with | [.ints a, .ints b] => [⟨Nat, [0, 1], [], fun B k => [(5, .v (.int .i64 (k : Nat)))], fun B k => [], fun k => k ≤ a.length ∧ a.length = b.length ∧ agv (a.take k) (b.take k) = true, fun k => a.length - k, 0⟩] | _ => []) Tryz.func27 (by kernel_rfl) (by kernel_rfl) rfl Tryz.ntmps27 (by decide) ?_ ?_
 ·intro ds p bs F h
  unfold alv at h
  split at h
  ·rename_i a b
   simp only [zsI, zpI] at h
   obtain ⟨_, _, rfl⟩ := h
   kernel_rfl
  ·cases h
 ·intro ds bs F hl h
  unfold alv at h
  split at h
  ·rename_i a b
   simp only [zsI, zpI, zaT] at h
   obtain ⟨h0, _, rfl⟩ := h
   exact Eq.mpr (by kernel_rfl) (bcx O R a b (dn O hO) hR (by first | exact h0 | (simp only [zaT]; exact h0)))
  ·cases h
end Go.Proofs.YtgekiddgdjeaiaaGreat

namespace Go.Proofs.YtgekiddgdjeaiaaGreat
open Go.RowKit Go.Lib Ckp Cfd Cpd Sx
set_option linter.unusedVariables false
set_option linter.unusedSimpArgs false
set_option maxRecDepth 1000000
set_option maxHeartbeats 4000000

theorem axh {l : List (List Int)} : cnd l = true ↔ ∀ x ∈ l, (inU (x.getD 3 0) 18446744073709551616 && Nat.beq x.length 5) = true := by unfold cnd; exact List.all_eq_true
theorem bek {f i a q e : Int} {l : List (List Int)} (h : cnd l = true) (hq : inU q 18446744073709551616 = true) : cnd (bn [f, i, a, q, e] l) = true := by
 rw [axh] at h ⊢
 intro x hx
 unfold bn at hx
 rcases List.mem_append.1 hx with hx | hx
 ·rcases List.mem_append.1 hx with hx | hx
  ·exact h x (List.mem_of_mem_take hx)
  ·obtain rfl := List.mem_singleton.1 hx
   show (inU q 18446744073709551616 && true) = true
   rw [hq]; rfl
 ·exact h x (List.mem_of_mem_drop hx)
theorem ayg {q : List Int} {l : List (List Int)} (h : cnd l = true) : cnd (mg q l) = true := by
 rw [axh] at h ⊢
 intro x hx
 unfold mg at hx
 exact h x (List.mem_filter.1 hx).1
theorem ba9 (q : List Int) (l : List (List Int)) : (mg q l).length ≤ l.length := by
 unfold mg
 exact List.length_filter_le _ _
theorem a9c (a b x q e : Int) : eqv (Array.mk [Value.int .i64 a, Value.int .i64 b, Value.int .i64 x, Value.int .u64 q, Value.int .i64 e]) (Array.mk [Value.int .i64 a, Value.int .i64 b, Value.int .i64 x, Value.int .u64 q, Value.int .i64 e]) = true := by
 simp [eqv, eqL]
theorem bl4 (E : Int) {X : List (List Int)} (h1 : X.length ≤ 1000) (h2 : cnd X = true) : ((bif ax E 0 then X else []).length.ble 1000 && cnd (bif ax E 0 then X else []) && (bif ax E 0 then X else []).length.ble 1000 && cnd (bif ax E 0 then X else [])) = true := by
 cases ax E 0
 ·rfl
 ·rw [cond_true, h2, show X.length.ble 1000 = true by rw [Nat.ble_eq]; exact h1]; rfl
theorem ss4 (no h0 h1 rt : Int) (l : List (List Int)) : (!acj no h0 h1 rt l no h0 h1 rt l) = false := by
 unfold acj
 rw [show qc no no = false by simp only [Bz, Sx.af.n], show ax h0 h0 = true by simp only [Bz, Sx.af.n], show ax h1 h1 = true by simp only [Bz, Sx.af.n], show qc rt rt = false by simp only [Bz, Sx.af.n], show qc (l.length : Int) (l.length : Int) = false by simp only [Bz, Sx.af.n]]
 show (!decide (l = l)) = false
 rw [decide_eq_true rfl]; rfl
theorem nb4 (x : Int) : qc x x = false := by simp only [Bz, Sx.af.n]
theorem eb4 (x : Int) : ax x x = true := by simp only [Bz, Sx.af.n]
theorem bb4 (x : Bool) : (x == x) = true := by cases x <;> rfl
theorem bn4 (x : Bool) : (!x == x) = false := by cases x <;> rfl
def bkh (O : OO) (Y : OY) (R : OB) (f : FuncId) : Option Sx.Spec := match f with
 | 28 => some (au [.agg [.v, .v, .v, .roS [.i64, .i64, .i64, .u64, .i64], .v]] true (aee O R))
 | 14 => some (au [.ro .u8] true (agu O R))
 | 27 => some (au [.ro .u8, .ro .u8] false (alv O R))
 | 29 => some (au [.agg [.v, .v, .v, .roS [.i64, .i64, .i64, .u64, .i64], .v]] true (ag5 O R))
 | 15 => some (au [.ro .u8] true (ai6 O R))
 | f => bkw O Y f
theorem ba3 (I : Sx.Interp) (O : OO) (hO : O = oo) (Y : OY) (hY : Y = yO O) (R : OB) (hR : R = bO) : ∀ f s, bkh O Y R f = some s → ag I Tryz.prog f s := by
 intro f s h
 unfold bkh at h
 split at h
 · cases h; exact aor I O hO R hR
 · cases h; exact asl I O hO R hR
 · cases h; exact bes I O hO R hR
 · cases h; exact aqy I O hO R hR
 · cases h; exact axo I O hO R hR
 ·exact bh4 I O hO Y hY _ s h
def ac6 (O : OO) (Y : OY) (R : OB) (ds : List Dt) : zG := match ds with
 | [.v (.agg ch), .node [.v (.int .i64 no), .v (.int .i64 h0), .v (.int .i64 h1), .structs l, .v (.int .i64 rt)], .v (.agg ⟨[.int .i64 f, .int .i64 i, .int .i64 a, .int .u64 q, .int .i64 e]⟩), .v (.int .i64 fr), .v (.int .i64 id), .v (.int .u64 k), .v (.int .i64 r), .ints b] => some ((chB ch) && (Nat.ble l.length 9223372036854775807) && (cnd l) && (inU q 18446744073709551616) && (inU k 18446744073709551616) && (byB b) && (uh (-9223372036854775808) 9223372036854775807 [no, h0, h1, rt]) && ((l.all fun x => uh (-9223372036854775808) 9223372036854775807 [x.getD 0 0, x.getD 1 0, x.getD 2 0, x.getD 4 0])), [], fun _ => ⟨[.v (.bool true)], []⟩)
 | _ => none
theorem awp (O : OO) (Y : OY) (R : OB) (c : Nat → Int) (no h0 h1 rt : Int) (l : List (List Int)) (f i a q e fr id k r : Int) (b : List Int) (F : FO O) (hy : Y = yO O) (hr : R = bO) (hc : chB (chA c) = true) (g0 : Nat.ble l.length 9223372036854775807 = true) (g1 : cnd l = true) (g2 : inU q 18446744073709551616 = true) (g3 : inU k 18446744073709551616 = true) (g4 : byB b = true) (g5 : uh (-9223372036854775808) 9223372036854775807 [no, h0, h1, rt] = true) (g6 : (l.all fun x => uh (-9223372036854775808) 9223372036854775807 [x.getD 0 0, x.getD 1 0, x.getD 2 0, x.getD 4 0]) = true) (ec : cz (chA c) = c) :
 let T1 := Array.mk [vI (ak fr id l 0), vI (ak fr id l 1), vI (ak fr id l 2), Value.int .u64 (ak fr id l 3), vI (ak fr id l 4)]; let T2 := bif ax (aas O (cz (chA c)) no h0 h1 rt l fr id k) 0 then mg [ak fr id l 0, ak fr id l 1, ak fr id l 2, ak fr id l 3, ak fr id l 4] l else [];
  let T3 := bif ax (vz O (cz (chA c)) no h0 h1 rt l fr id) 0 then mg [ak fr id l 0, ak fr id l 1, ak fr id l 2, ak fr id l 3, ak fr id l 4] l else []; let T4 := bif !jy 0 1 [fr] then 0 else IntKind.i64.wrap (dh (jf h0 h1 fr) (og (IntKind.i64.wrap (di 1 fr)) l));
  let T5 := gm O (cz (chA c)) no h0 h1 rt l f i a q e; let T6 := ny O (cz (chA c)) no h0 h1 rt l r; let T7 := chB (chA c) && l.length.ble 1000 && cnd l; let T8 := If ((stB R no h0 h1 rt l).length.ble 9223372036854775807) (vB (agv (stB R no h0 h1 rt l) (stB R no h0 h1 rt l)) = vB true ∧ True ∧ True) False;
  let T9 := aas O (cz (chA c)) no h0 h1 rt l fr id k; let T10 := vz O (cz (chA c)) no h0 h1 rt l fr id; let T11 := bif ax T5 0 then bn [f, i, a, q, e] l else []; let T12 := jh O (cz (chA c)) no h0 h1 rt l == jh O (cz (chA c)) no h0 h1 rt l;
  let T13 := ax (aa3 h0 h1 l) (aa3 h0 h1 l); let T14 := chB (chA c) && l.length.ble 1000 && cnd l && inU q 18446744073709551616; let T15 := chB (chA c) && l.length.ble 1000 && cnd l && inU k 18446744073709551616;
  let T16 := bif ax T10 0 then hadd fr h0 (ak fr id l 2) 0 else 0; let T17 := bif ax T10 0 then hadd fr h1 (ak fr id l 2) 1 else 0; let T18 := bif ax T9 0 then hadd fr h0 (ak fr id l 2) 1 else 0;
  let T19 := bif ax T9 0 then hadd fr h1 (ak fr id l 2) 0 else 0; If (!ahr h0 h1 rt l) (vB true = vB true ∧ True ∧ True) (If (iLt 1000 (iOf (af.ints .u8 b).n)) (vB true = vB
  true ∧ True ∧ True) (If T14 (If T14 (If T15 (If T15 (If T7 (If T7 (If T7 (If T7 (If (b.length.ble 1000000) (If (b.length.ble 1000000 && byB b) (If (T11.length.ble 1000 && cnd T11 &&
  T11.length.ble 1000 && cnd T11) (If (!acj (bif ax T5 0 then no else 0) (bif ax T5 0 then hsub f h0 a 0 else 0) (bif ax T5 0 then hsub f h1 a 1 else 0) (bif ax T5 0 then rt
  else 0) T11 (bif ax T5 0 then no else 0) (bif ax T5 0 then hsub f h0 a 0 else 0) (bif ax T5 0 then hsub f h1 a 1 else 0) (bif ax T5 0 then rt else 0) T11) (vB false = vB
  true ∧ True ∧ True) (If (qc T5 T5) (vB false = vB true ∧ True ∧ True) (If (T2.length.ble 1000 && cnd T2 && T2.length.ble 1000 && cnd T2) (If (!acj (bif ax T9 0 then no else 0)
  T18 T19 (bif ax T9 0 then rt else 0) T2 (bif ax T9 0 then no else 0) T18 T19 (bif ax T9 0 then rt else 0) T2) (vB false = vB true ∧ True ∧ True) (If (qc T9 T9) (vB false =
  vB true ∧ True ∧ True) (If (T3.length.ble 1000 && cnd T3 && T3.length.ble 1000 && cnd T3) (If (!acj (bif ax T10 0 then no else 0) T16 T17 (bif ax T10 0 then rt else 0) T3 (bif
  ax T10 0 then no else 0) T16 T17 (bif ax T10 0 then rt else 0) T3) (vB false = vB true ∧ True ∧ True) (If (qc T10 T10) (vB false = vB true ∧ True ∧ True) (If ((bif ax T6 0
  then l else []).length.ble 1000 && cnd (bif ax T6 0 then l else []) && (bif ax T6 0 then l else []).length.ble 1000 && cnd (bif ax T6 0 then l else [])) (If (!acj (bif ax
  T6 0 then no else 0) (bif ax T6 0 then h0 else 0) (bif ax T6 0 then h1 else 0) (bif ax T6 0 then r else 0) (bif ax T6 0 then l else []) (bif ax T6 0 then no else 0) (bif
  ax T6 0 then h0 else 0) (bif ax T6 0 then h1 else 0) (bif ax T6 0 then r else 0) (bif ax T6 0 then l else [])) (vB false = vB true ∧ True ∧ True) (If (qc T6 T6) (vB false
  = vB true ∧ True ∧ True) (If ((snC R b).length.ble 1000 && cnd (snC R b) && (snC R b).length.ble 1000 && cnd (snC R b)) (If (!acj (aia R b) (ah7 R b) (ah9 R b) (ah2 R b) (snC
  R b) (aia R b) (ah7 R b) (ah9 R b) (ah2 R b) (snC R b)) (vB false = vB true ∧ True ∧ True) (If (!xn R b == xn R b) (vB false = vB true ∧ True ∧ True) (If (l.length.ble 1000)
  (If (l.length.ble 1000) (If (iLe 0 rt) (If (iLe rt 1000) (If (iLe (iOf (cS l).n) 16) (If (chB (chA c) && l.length.ble 1000) (If (chB (chA c) && l.length.ble 1000) (If (qc (jg
  rt (iOf l.length)) (jg rt (iOf l.length))) (vB false = vB true ∧ True ∧ True) (If (eqv T1 T1) (If ((!iLt (ed (aj fr id) l) 0) == !iLt (ed (aj fr id) l) 0) (If T7 (If
  T7 (If T12 (If (l.length.ble 1000) (If (l.length.ble 1000) (If T13 (If (l.length.ble 1000) (If (l.length.ble 1000) (If (ax T4 T4) (If (l.length.ble 1000 && pqB l) (If
  (l.length.ble 1000 && pqB l && uh (abn 9223372036854775808) 9223372036854775807 [no, h0, h1, rt] && l.all fun (x : List Int) => uh (abn 9223372036854775808)
  9223372036854775807 [x.getD 0 0, x.getD 1 0, x.getD 2 0, x.getD 4 0]) T8 False) False) (vB false = vB true ∧ True ∧ True)) False) False) (vB false = vB true ∧ True ∧ True)) False)
  False) (vB false = vB true ∧ True ∧ True)) False) False) (vB false = vB true ∧ True ∧ True)) (vB false = vB true ∧ True ∧ True))) False) False) (If (eqv T1 T1) (If ((!iLt (ed
  (aj fr id) l) 0) == !iLt (ed (aj fr id) l) 0) (If T7 (If T7 (If T12 (If (l.length.ble 1000) (If (l.length.ble 1000) (If T13 (If (l.length.ble 1000) (If (l.length.ble 1000)
  (If (ax T4 T4) (If (l.length.ble 1000 && pqB l) (If (l.length.ble 1000 && pqB l && uh (abn 9223372036854775808) 9223372036854775807 [no, h0, h1, rt] && l.all fun (x : List Int)
  => uh (abn 9223372036854775808) 9223372036854775807 [x.getD 0 0, x.getD 1 0, x.getD 2 0, x.getD 4 0]) T8 False) False) (vB false = vB true ∧ True ∧ True)) False) False) (vB false
  = vB true ∧ True ∧ True)) False) False) (vB false = vB true ∧ True ∧ True)) False) False) (vB false = vB true ∧ True ∧ True)) (vB false = vB true ∧ True ∧ True))) (If (eqv T1 T1)
  (If ((!iLt (ed (aj fr id) l) 0) == !iLt (ed (aj fr id) l) 0) (If T7 (If T7 (If T12 (If (l.length.ble 1000) (If (l.length.ble 1000) (If T13 (If (l.length.ble 1000) (If
  (l.length.ble 1000) (If (ax T4 T4) (If (l.length.ble 1000 && pqB l) (If (l.length.ble 1000 && pqB l && uh (abn 9223372036854775808) 9223372036854775807 [no, h0, h1, rt] &&
  l.all fun (x : List Int) => uh (abn 9223372036854775808) 9223372036854775807 [x.getD 0 0, x.getD 1 0, x.getD 2 0, x.getD 4 0]) T8 False) False) (vB false = vB true ∧ True ∧
  True)) False) False) (vB false = vB true ∧ True ∧ True)) False) False) (vB false = vB true ∧ True ∧ True)) False) False) (vB false = vB true ∧ True ∧ True)) (vB false = vB true ∧
  True ∧ True))) (If (eqv T1 T1) (If ((!iLt (ed (aj fr id) l) 0) == !iLt (ed (aj fr id) l) 0) (If T7 (If T7 (If T12 (If (l.length.ble 1000) (If (l.length.ble 1000) (If T13
  (If (l.length.ble 1000) (If (l.length.ble 1000) (If (ax T4 T4) (If (l.length.ble 1000 && pqB l) (If (l.length.ble 1000 && pqB l && uh (abn 9223372036854775808)
  9223372036854775807 [no, h0, h1, rt] && l.all fun (x : List Int) => uh (abn 9223372036854775808) 9223372036854775807 [x.getD 0 0, x.getD 1 0, x.getD 2 0, x.getD 4 0]) T8 False)
  False) (vB false = vB true ∧ True ∧ True)) False) False) (vB false = vB true ∧ True ∧ True)) False) False) (vB false = vB true ∧ True ∧ True)) False) False) (vB false = vB true ∧
  True ∧ True)) (vB false = vB true ∧ True ∧ True))) False) False))) False))) False))) False))) False))) False) False) False) False) False) False) False) False) False) False) False)) := by
 conv => zeta
 simp only [ec]
 refine ae (fun _ => ⟨(by first | rfl | trivial), trivial, trivial⟩) (fun hf => ae (fun _ => ⟨(by first | rfl | trivial), trivial, trivial⟩) (fun hb => ?_))
 have l20 := a7m hf
 simp only [Bz, Sx.af.n, zUn] at hb
 have hb' : b.length ≤ 1000 := by omega
 have l1 : Nat.ble l.length 1000 = true := by rw [Nat.ble_eq]; omega
 have p1 : pqB l = true := g1
 have C0 : (chB (chA c) && l.length.ble 1000 && cnd l && inU q 18446744073709551616) = true := by rw [hc, l1, g1, g2]; rfl
 have C1 : (chB (chA c) && l.length.ble 1000 && cnd l && inU k 18446744073709551616) = true := by rw [hc, l1, g1, g3]; rfl
 have C2 : (chB (chA c) && l.length.ble 1000 && cnd l) = true := by rw [hc, l1, g1]; rfl
 have C3 : (chB (chA c) && l.length.ble 1000) = true := by rw [hc, l1]; rfl
 have C4 : b.length.ble 1000000 = true := by rw [Nat.ble_eq]; omega
 have C5 : (b.length.ble 1000000 && byB b) = true := by rw [C4, g4]; rfl
 have C6 : (l.length.ble 1000 && pqB l) = true := by rw [l1, p1]; rfl
 have C7 : (l.length.ble 1000 && pqB l && uh (abn 9223372036854775808) 9223372036854775807 [no, h0, h1, rt] && l.all fun (x : List Int) => uh (abn 9223372036854775808) 9223372036854775807 [x.getD 0 0, x.getD 1 0, x.getD 2 0, x.getD 4 0]) = true := by
  rw [l1, p1, show uh (abn 9223372036854775808) 9223372036854775807 [no, h0, h1, rt] = true from g5]; exact g6
 have C8 : ((snC R b).length.ble 1000 && cnd (snC R b) && (snC R b).length.ble 1000 && cnd (snC R b)) = true := by
  cases h : xn R b
  ·rw [show snC R b = [] by unfold snC; rw [h]; rfl]; rfl
  ·obtain ⟨e2, e3⟩ := bhc hr h
   rw [show cnd (snC R b) = true from e2, show (snC R b).length.ble 1000 = true by rw [Nat.ble_eq]; omega]; rfl
 have C9 : (stB R no h0 h1 rt l).length.ble 9223372036854775807 = true := by
  have := bf4 hr (no := no) (h0 := h0) (h1 := h1) (rt := rt) l20
  rw [Nat.ble_eq]; omega
 have cI : (bn [f, i, a, q, e] l).length ≤ 1000 := by rw [ae7]; omega
 have cR : ∀ Q, (mg Q l).length ≤ 1000 := fun Q => Nat.le_trans (ba9 Q l) (by omega)
 refine ziT C0 (ziT C0 (ziT C1 (ziT C1 (ziT C2 (ziT C2 (ziT C2 (ziT C2 (ziT C4 (ziT C5 ?_)))))))))
 refine ziT (bl4 _ cI (bek g1 g2)) (Sx.if_false (ss4 _ _ _ _ _) (Sx.if_false (nb4 _) ?_))
 refine ziT (bl4 _ (cR _) (ayg g1)) (Sx.if_false (ss4 _ _ _ _ _) (Sx.if_false (nb4 _) ?_))
 refine ziT (bl4 _ (cR _) (ayg g1)) (Sx.if_false (ss4 _ _ _ _ _) (Sx.if_false (nb4 _) ?_))
 refine ziT (bl4 _ (by omega) g1) (Sx.if_false (ss4 _ _ _ _ _) (Sx.if_false (nb4 _) ?_))
 refine ziT C8 (Sx.if_false (ss4 _ _ _ _ _) (Sx.if_false (bn4 _) (ziT l1 (ziT l1 ?_))))
 have E8 : Value.bool (agv (stB R no h0 h1 rt l) (stB R no h0 h1 rt l)) = Value.bool true ∧ True ∧ True := ⟨by rw [show agv (stB R no h0 h1 rt l) (stB R no h0 h1 rt l) = true from decide_eq_true rfl], trivial, trivial⟩
 refine ae (fun _ => ae (fun _ => ae (fun _ => ziT C3 (ziT C3 (Sx.if_false (nb4 _) ?_))) (fun _ => ?_)) (fun _ => ?_)) (fun _ => ?_)
 all_goals exact ziT (a9c _ _ _ _ _) (ziT (bb4 _) (ziT C2 (ziT C2 (ziT (bb4 _) (ziT l1 (ziT l1 (ziT (eb4 _) (ziT l1 (ziT l1 (ziT (eb4 _) (ziT C6 (ziT C7 (ziT C9 E8)))))))))))))
theorem ax5 (I : Sx.Interp) (O : OO) (hO : O = oo) (Y : OY) (hY : Y = yO O) (R : OB) (hR : R = bO) : ag I Tryz.prog 3 (au [.v, .agg [.v, .v, .v, .roS [.i64, .i64, .i64, .u64, .i64], .v], .v, .v, .v, .v, .v, .ro .u8] false (ac6 O Y R)) := by
 refine jb (ba3 I O hO Y hY R hR) (by kernel_rfl) (fun _ => []) Tryz.func3 (by kernel_rfl) (by kernel_rfl) rfl Tryz.ntmps3 (by decide) ?_ ?_
 ·intro ds p bs F h
  unfold ac6 at h
  split at h
  ·simp only [zsI, zpI] at h
   obtain ⟨_, _, rfl⟩ := h
   kernel_rfl
  ·cases h
 ·intro ds bs F hl h
  unfold ac6 at h
  split at h
  ·rename_i ch no h0 h1 l rt f i a q e fr id k r b
   simp only [zsI, zpI, zaT] at h
   obtain ⟨⟨⟨⟨⟨⟨⟨⟨hc, g0⟩, g1⟩, g2⟩, g3⟩, g4⟩, g5⟩, g6⟩, _, rfl⟩ := h
   obtain ⟨c, ec, rfl⟩ : ∃ c, cz ch = c ∧ ch = chA c := ⟨_, rfl, aak hc⟩
   simp only [ec]
   exact Eq.mpr (by kernel_rfl) (awp O Y R c no h0 h1 rt l f i a q e fr id k r b (dn O hO) hY hR hc g0 g1 g2 g3 g4 g5 g6 (ec))
  ·cases h
end Go.Proofs.YtgekiddgdjeaiaaGreat
