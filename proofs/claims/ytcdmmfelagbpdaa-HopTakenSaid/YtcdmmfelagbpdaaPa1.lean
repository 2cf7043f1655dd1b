/- Pay: the functions of the program and of the document, by the symbolic machine (printed by genpa.py; VCs by VcTool). -/
import Derived.Test.YtcdmmfelagbpdaaPa0
namespace Go.Proofs.Ytcdmmfelagbpdaa
open Go.RowKit Go.Lib Ckp Cfd Cpd Sx
set_option linter.unusedVariables false
set_option linter.unusedSimpArgs false
set_option maxRecDepth 1000000
def sumO (O : OO) (l : List Int) : Int := l.foldl O.fadd 0
def consO (O : OO) (b : Int) : List Int → List Int
 | [] => []
 | x :: r => O.padd x (O.pbase b) :: x :: r
def fromO (O : OO) (q : Int) : List Int → List Int
 | [] => [q]
 | b :: l => consO O b (fromO O q l)
def stepR (O : OO) (p b : Int) : Int := O.padd p (O.pbase b)
def rfromO (O : OO) (q : Int) (l : List Int) (n : Nat) : List Int := (List.range n).map fun i => (l.drop i).foldl (stepR O) q
def drawO (O : OO) (s : ByteArray) (b : List Int) (n : Int) : Int := O.ffrom (AV (O.tag s [b, [IntKind.u8.wrap n]]))
def drawsO (O : OO) (s : ByteArray) (b : List Int) (n : Nat) : List Int := (List.range n).map fun i : Nat => drawO O s b (i : Int)
def blindB : ByteArray := ByteArray.mk #[98, 108, 105, 110, 100]
def partB : ByteArray := ByteArray.mk #[112, 97, 114, 116]
def eqL2 : List Int → List Int → Bool
 | [], [] => true
 | a :: l, b :: m => iBeq a b && eqL2 l m
 | _, _ => false
def frB (O : OO) (q : Int) (n : Int) : Bool := bif !(O.pright q) then true else iLe 8 n
def newB (O : OO) (q n : Int) : Bool := bif (bif (bif !(O.pright q) then true else iBeq q 1) then true else iLt n 1) then true else iLt 8 n
def prtB (n : Int) : Bool := bif iLt n 1 then true else iLt 8 n
def partsO (O : OO) (b : List Int) (s n : Int) : List Int := drawsO O partB b (n - 1).toNat ++ [O.fsub s (sumO O (drawsO O partB b (n - 1).toNat))]
def b8 (c : Int) : List Int := [IntKind.u8.wrap (c.fdiv (2 ^ 56)), IntKind.u8.wrap (c.fdiv (2 ^ 48)), IntKind.u8.wrap (c.fdiv (2 ^ 40)), IntKind.u8.wrap (c.fdiv (2 ^ 32)), IntKind.u8.wrap (c.fdiv (2 ^ 24)), IntKind.u8.wrap (c.fdiv (2 ^ 16)), IntKind.u8.wrap (c.fdiv (2 ^ 8)), IntKind.u8.wrap (c.fdiv (2 ^ 0))]
def blindsO (O : OO) (b : Array Value) (n : Int) : List Int := drawsO O blindB (intsA b) (n - 1).toNat
theorem foldl_snoc {α β : Type} (f : α → β → α) (a : α) (l : List β) {j : Nat} (d : β) (h : j < l.length) : (l.take (j + 1)).foldl f a = f ((l.take j).foldl f a) (l.getD j d) := by
 rw [List.take_add_one, List.getElem?_eq_getElem h, List.getD_eq_getElem?_getD, List.getElem?_eq_getElem h, List.foldl_append]
 rfl
theorem inUs_at {b : Nat} {l : List Int} (hl : inUs b l = true) {x : Nat} (hx : x < l.length) : inU (l.getD x 0) b = true := by
 rw [List.getD_eq_getElem?_getD, List.getElem?_eq_getElem hx]
 exact List.all_eq_true.1 hl _ (List.getElem_mem hx)
theorem sum_in {O : OO} (F : FO O) (l : List Int) : inU (sumO O l) 18446744073709551616 = true := by
 unfold sumO
 have : ∀ (l : List Int) (a : Int), inU a 18446744073709551616 = true → inU (l.foldl O.fadd a) 18446744073709551616 = true := by
  intro l
  induction l with
  | nil => intro a h; exact h
  | cons x l ih => intro a _; exact ih _ (F.fadd a x)
 exact this l 0 (by decide)
theorem eqL2_self : ∀ l : List Int, eqL2 l l = true
 | [] => rfl
 | a :: l => by unfold eqL2; rw [eqL2_self l, show iBeq a a = true by simp [iBeq]]; rfl
theorem eqL2_iff : ∀ (l m : List Int), eqL2 l m = true ↔ l = m
 | [], [] => by simp [eqL2]
 | [], _ :: _ => by simp [eqL2]
 | _ :: _, [] => by simp [eqL2]
 | a :: l, b :: m => by unfold eqL2; rw [Bool.and_eq_true, eqL2_iff l m, Sx.iBeq_t]; simp
theorem wrap_succ {x : Nat} (h : x ≤ 1000000) : IntKind.i64.wrap ((x : Int) + 1) = ((x + 1 : Nat) : Int) := by rw [IntWalk.i64_in _ (by omega)]; omega
theorem take_succ_eq {l m : List Int} {x : Nat} (h : l.take x = m.take x) (hl : x < l.length) (hm : x < m.length) (e : l.getD x 0 = m.getD x 0) : l.take (x + 1) = m.take (x + 1) := by
 rw [List.getD_eq_getElem?_getD, List.getD_eq_getElem?_getD, List.getElem?_eq_getElem hl, List.getElem?_eq_getElem hm] at e
 rw [List.take_add_one, List.take_add_one, h, List.getElem?_eq_getElem hl, List.getElem?_eq_getElem hm]
 simp only [Option.getD_some] at e
 rw [e]
theorem fromO_ne (O : OO) (q : Int) : ∀ l : List Int, ∃ x r, fromO O q l = x :: r
 | [] => ⟨q, [], rfl⟩
 | b :: l => by obtain ⟨x, r, h⟩ := fromO_ne O q l; exact ⟨O.padd x (O.pbase b), x :: r, by unfold fromO; rw [h]; rfl⟩
theorem fromO_len (O : OO) (q : Int) : ∀ l : List Int, (fromO O q l).length = l.length + 1
 | [] => rfl
 | b :: l => by
  obtain ⟨x, r, h⟩ := fromO_ne O q l
  have e := fromO_len O q l
  unfold fromO
  rw [h] at e ⊢
  simp only [consO, List.length_cons] at e ⊢
  omega
theorem fromO_in {O : OO} (F : FO O) {q : Int} (hq : inU q 18446744073709551616 = true) : ∀ l : List Int, ∀ x ∈ fromO O q l, inU x 18446744073709551616 = true
 | [] => fun x hx => by simp only [fromO, List.mem_singleton] at hx; subst hx; exact hq
 | b :: l => fun x hx => by
  obtain ⟨y, r, h⟩ := fromO_ne O q l
  have ih := fromO_in F hq l
  unfold fromO at hx
  rw [h] at hx ih
  simp only [consO, List.mem_cons] at hx
  rcases hx with rfl | hx
  ·exact F.padd _ _
  ·exact ih x (List.mem_cons.2 hx)
def fromC (O : OO) (q : Int) (l : List Int) (k : Nat) : List Int := List.replicate k 0 ++ fromO O q (l.drop k)
theorem fromC_len (O : OO) (q : Int) {l : List Int} {k : Nat} (h : k ≤ l.length) : (fromC O q l k).length = l.length + 1 := by
 unfold fromC; rw [List.length_append, List.length_replicate, fromO_len, List.length_drop]; omega
theorem fromC_at {O : OO} (F : FO O) {q : Int} (hq : inU q 18446744073709551616 = true) {l : List Int} {k : Nat} (h : k ≤ l.length) : inU ((fromC O q l k).getD k 0) 18446744073709551616 = true := by
 obtain ⟨x, r, e⟩ := fromO_ne O q (l.drop k)
 have := fromO_in F hq (l.drop k) x (by rw [e]; exact List.mem_cons_self)
 unfold fromC
 rw [List.getD_eq_getElem?_getD, List.getElem?_append_right (by rw [List.length_replicate]; exact Nat.le_refl _), List.length_replicate, Nat.sub_self, e]
 exact this
theorem fromC_set (O : OO) (q : Int) {l : List Int} {k : Nat} (h : k < l.length) : (fromC O q l (k + 1)).set k (O.padd ((fromC O q l (k + 1)).getD (k + 1) 0) (O.pbase (l.getD k 0))) = fromC O q l k := by
 obtain ⟨x, r, e⟩ := fromO_ne O q (l.drop (k + 1))
 have ex : (fromC O q l (k + 1)).getD (k + 1) 0 = x := by
  unfold fromC
  rw [List.getD_eq_getElem?_getD, List.getElem?_append_right (by rw [List.length_replicate]; exact Nat.le_refl _), List.length_replicate, Nat.sub_self, e]
  rfl
 rw [ex, List.getD_eq_getElem?_getD, List.getElem?_eq_getElem h]
 unfold fromC
 rw [List.drop_eq_getElem_cons h, List.replicate_succ', List.append_assoc, List.set_append_right _ _ (by rw [List.length_replicate]; exact Nat.le_refl _), List.length_replicate, Nat.sub_self, fromO, e]
 rfl
theorem fromC_end (O : OO) (q : Int) (l : List Int) : fromC O q l l.length = List.replicate l.length 0 ++ [q] := by unfold fromC; rw [List.drop_length]; rfl
theorem step_in {O : OO} (F : FO O) {q : Int} (hq : inU q 18446744073709551616 = true) : ∀ l : List Int, inU (l.foldl (stepR O) q) 18446744073709551616 = true := by
 intro l
 induction l generalizing q with
 | nil => exact hq
 | cons x l ih => exact ih (F.padd q (O.pbase x))
theorem step_snoc (O : OO) (q : Int) {l : List Int} {i k : Nat} (hi : i ≤ k) (h : k < l.length) : O.padd (((l.drop i).take (k - i)).foldl (stepR O) q) (O.pbase (l.getD k 0)) = ((l.drop i).take (k + 1 - i)).foldl (stepR O) q := by
 rw [show k + 1 - i = (k - i) + 1 by omega, foldl_snoc (stepR O) q (l.drop i) 0 (by rw [List.length_drop]; omega)]
 have e : (l.drop i).getD (k - i) 0 = l.getD k 0 := by
  rw [List.getD_eq_getElem?_getD, List.getD_eq_getElem?_getD, List.getElem?_drop, show i + (k - i) = k by omega]
 rw [e]
 rfl
theorem rfromO_succ (O : OO) (q : Int) (l : List Int) (n : Nat) : rfromO O q l (n + 1) = rfromO O q l n ++ [(l.drop n).foldl (stepR O) q] := by unfold rfromO; rw [List.range_succ, List.map_append]; rfl
theorem rfromO_len (O : OO) (q : Int) (l : List Int) (n : Nat) : (rfromO O q l n).length = n := by unfold rfromO; rw [List.length_map, List.length_range]
theorem frB_no {O : OO} {q n : Int} (h : frB O q n = false) : O.pright q = true ∧ n < 8 := by
 unfold frB at h
 cases e : O.pright q with
 | false => rw [e] at h; cases h
 | true => rw [e] at h; simp only [Bool.not_true, cond_false, Bool.and_eq_true, Bool.or_eq_true, Sx.iLt_t, Sx.iLt_f, Sx.iLe_t, Sx.iLe_f, Sx.iEq_t, Sx.iEq_f, Sx.iBeq_t, Sx.iBeq_f, Sx.iBne_t, Sx.iBne_f, Nat.ble_eq, Nat.beq_eq, Sx.Cont.n] at h; exact ⟨rfl, by omega⟩
def g_paysum (O : OO) (Y : OY) (xs : List Arg) : Option (Bool × List Ret) := match xs with
 | [.ints l] => some ((inUs 18446744073709551616 l) && (Nat.ble l.length 1000), [.v (.int .u64 (sumO O l))])
 | _ => none
set_option maxHeartbeats 4000000 in
theorem vc_paysum (O : OO) (Y : OY) (l : List Int) (F : FO O) (hy : Y = yO O) (h0 : inUs 18446744073709551616 l = true) (h1 : Nat.ble l.length 1000 = true) :
 (∃ (x : Nat), x ≤ l.length ∧ (Value.int .u64 0 = Value.int .u64 (sumO O (List.take x l)) ∧ Value.int .i64 0 = Value.int .i64 (iOf x) ∧ Value.int .i64 (iOf l.length) = Value.int .i64
  (iOf l.length) ∧ True) ∧ EqI l l ∧ True) ∧ ∀ (x : Nat), x ≤ l.length → If (iLt (iOf x) (iOf (Cont.ints .u64 l).n)) (If (iLe 0 (iOf x) && (iOf x).toNat.blt l.length) (If (true &&
  Nat.beq 1 1 && (iOf x).toNat.blt l.length) (If (inU (sumO O (List.take x l)) 18446744073709551616 && inU (l.getD (iOf x).toNat 0) 18446744073709551616) (∃ (x' : Nat), x' ≤ l.length
  ∧ (nSub l.length x').succ ≤ nSub l.length x ∧ (Value.int .u64 (O.fadd (sumO O (List.take x l)) (l.getD (iOf x).toNat 0)) = Value.int .u64 (sumO O (List.take x' l)) ∧ Value.int .i64
  (IntKind.i64.wrap (iAdd (iOf x) 1)) = Value.int .i64 (iOf x') ∧ Value.int .i64 (iOf l.length) = Value.int .i64 (iOf l.length) ∧ True) ∧ EqI l l ∧ True) False) False) False)
  (Value.int .u64 (sumO O (List.take x l)) = Value.int .u64 (sumO O l) ∧ True) := by
 simp only [Sx.app, Sx.nAdd, Sx.nSub, Sx.nMul, Sx.nPow, Sx.nDiv, Sx.nMod, Sx.iAdd, Sx.iSub, Sx.iMul, Sx.iNeg, Sx.iPow, Sx.iOf]
 have hm := Nat.le_of_ble_eq_true h1
 have hp : ∀ x, inU (sumO O (l.take x)) 18446744073709551616 = true := fun x => sum_in F _
 have hn : ∀ x, x < l.length → O.fadd (sumO O (l.take x)) (l.getD x 0) = sumO O (l.take (x + 1)) := fun x hx => (foldl_snoc O.fadd 0 l 0 hx).symm
 refine ⟨⟨0, Nat.zero_le _, ⟨rfl, rfl, (by first | rfl | trivial)⟩, (by first | rfl | trivial)⟩, fun x hx => Sx.if_both (fun h => ?_) (fun h => ?_)⟩
 ·simp only [Bool.and_eq_true, Bool.or_eq_true, Sx.iLt_t, Sx.iLt_f, Sx.iLe_t, Sx.iLe_f, Sx.iEq_t, Sx.iEq_f, Sx.iBeq_t, Sx.iBeq_f, Sx.iBne_t, Sx.iBne_f, Nat.ble_eq, Nat.beq_eq, Sx.Cont.n] at h
  have hlt : x < l.length := by omega
  have hbl : x.blt l.length = true := by rw [Nat.blt_eq]; exact hlt
  refine Sx.if_true (by simp only [Bool.and_eq_true, Bool.or_eq_true, Sx.iLt_t, Sx.iLt_f, Sx.iLe_t, Sx.iLe_f, Sx.iEq_t, Sx.iEq_f, Sx.iBeq_t, Sx.iBeq_f, Sx.iBne_t, Sx.iBne_f, Nat.ble_eq, Nat.beq_eq, Sx.Cont.n, hbl, and_true, Int.toNat_natCast]; omega) (Sx.if_true (by simp only [hbl, Int.toNat_natCast]; rfl) (Sx.if_true (by simp only [Int.toNat_natCast]; rw [hp x, inUs_at h0 hlt]; rfl) ⟨x + 1, hlt, by omega, ⟨by simp only [Int.toNat_natCast]; rw [hn x hlt], by rw [wrap_succ (by omega)], (by first | rfl | trivial)⟩, (by first | rfl | trivial)⟩))
 ·simp only [Bool.and_eq_true, Bool.or_eq_true, Sx.iLt_t, Sx.iLt_f, Sx.iLe_t, Sx.iLe_f, Sx.iEq_t, Sx.iEq_f, Sx.iBeq_t, Sx.iBeq_f, Sx.iBne_t, Sx.iBne_f, Nat.ble_eq, Nat.beq_eq, Sx.Cont.n] at h
  have hx2 : x = l.length := by omega
  subst hx2
  rw [List.take_of_length_le (Nat.le_refl _)]
  exact ⟨rfl, trivial⟩
theorem wpc_paysum (O : OO) (Y : OY) (l : List Int) (F : FO O) (hy : Y = yO O) (h0 : inUs 18446744073709551616 l = true) (h1 : Nat.ble l.length 1000 = true) : wpcI Try.prog (spY2 O Y) Try.f66.ntmps [⟨Nat, [6, 7], [], fun B j => [(3, .v (.int .u64 (sumO O (l.take j)))), (8, .v (.int .i64 (j : Int)))], fun B j => [], fun j => j ≤ l.length, fun j => l.length - j, 0⟩] (bodyOf Try.f66) 0 64 (envA [.ro .u64] [.ints l] 0) (memA [.ro .u64] [.ints l] 0) (retG Try.prog Try.f66.results.toList [.v (.int .u64 (sumO O l))]) :=
 Eq.mpr (by kernel_rfl) (vc_paysum O Y l F hy h0 h1)
theorem ok_paysum (I : Sx.Interp) (O : OO) (hO : O = oo) (Y : OY) (hY : Y = yO O) : Sx.SpecOK I Try.prog 66 (gspec [.ro .u64] (g_paysum O Y)) := by
 refine spec_genA (spY2_ok I O hO Y hY) (by kernel_rfl) (fun xs => match xs with | [.ints l] => [⟨Nat, [6, 7], [], fun B j => [(3, .v (.int .u64 (sumO O (l.take j)))), (8, .v (.int .i64 (j : Int)))], fun B j => [], fun j => j ≤ l.length, fun j => l.length - j, 0⟩] | _ => []) Try.func66 (by kernel_rfl) (by kernel_rfl) rfl Try.ntmps66 (by decide) ?_ ?_
 ·intro xs p rs h; unfold g_paysum at h; split at h <;> first | (simp only [Option.some.injEq, Prod.mk.injEq] at h; rw [← h.2]; simp) | cases h
 ·intro xs rs hl h
  unfold g_paysum at h
  split at h
  ·simp only [Option.some.injEq, Prod.mk.injEq, Bool.and_eq_true] at h
   obtain ⟨⟨h0, h1⟩, rfl⟩ := h
   exact wpcI_of (wpc_paysum O Y _ (fo_oo O hO) hY h0 h1)
  ·cases h
def g_rwhole (O : OO) (Y : OY) (xs : List Arg) : Option (Bool × List Ret) := match xs with
 | [.ints l] => some ((inUs 18446744073709551616 l) && (Nat.ble l.length 1000), [.v (.int .u64 (sumO O l))])
 | _ => none
def g_pdrawn (O : OO) (Y : OY) (xs : List Arg) : Option (Bool × List Ret) := match xs with
 | [.v (.string s), .ints b, .v (.int .i64 n)] => some ((Nat.ble s.size 1000) && (Nat.ble b.length 1000), [.v (.int .u64 (drawO O s b n))])
 | _ => none
def spP0 (O : OO) (Y : OY) (f : FuncId) : Option Sx.Spec := match f with
 | 66 => some (gspec [.ro .u64] (g_paysum O Y))
 | f => spY2 O Y f
theorem spP0_ok (I : Sx.Interp) (O : OO) (hO : O = oo) (Y : OY) (hY : Y = yO O) : ∀ f s, spP0 O Y f = some s → Sx.SpecOK I Try.prog f s := by
 intro f s h
 unfold spP0 at h
 split at h
 · cases h; exact ok_paysum I O hO Y hY
 ·exact spY2_ok I O hO Y hY _ s h
def g_pwhole (O : OO) (Y : OY) (xs : List Arg) : Option (Bool × List Ret) := match xs with
 | [.ints l] => some ((inUs 18446744073709551616 l) && (Nat.ble l.length 1000), [.v (.int .u64 (sumO O l))])
 | _ => none
def g_pproof (O : OO) (Y : OY) (xs : List Arg) : Option (Bool × List Ret) := match xs with
 | [.v (.int .u64 a), .ints l] => some ((inU a 18446744073709551616) && (inUs 18446744073709551616 l) && (Nat.ble l.length 1000), [.v (.int .u64 (O.fsub a (sumO O l)))])
 | _ => none
def g_rproof (O : OO) (Y : OY) (xs : List Arg) : Option (Bool × List Ret) := match xs with
 | [.v (.int .u64 a), .ints l] => some ((inU a 18446744073709551616) && (inUs 18446744073709551616 l) && (Nat.ble l.length 1000), [.v (.int .u64 (O.fsub a (sumO O l)))])
 | _ => none
def g_pback (O : OO) (Y : OY) (l : List Value) : Option (Bool × Value) := match l with
 | [.int .u64 a, .int .u64 b] => some ((inU a 18446744073709551616) && (inU b 18446744073709551616), .int .u64 (O.fadd (O.fadd 0 a) b))
 | _ => none
set_option maxHeartbeats 4000000 in
theorem vc_pback (O : OO) (Y : OY) (a b : Int) (out : Value) (F : FO O) (hy : Y = yO O) (h0 : inU a 18446744073709551616 = true) (h1 : inU b 18446744073709551616 = true) (ho : .int .u64 (O.fadd (O.fadd 0 a) b) = out) :
 If (inUs 18446744073709551616 [a, b] && [a, b].length.ble 1000) (Value.int .u64 (sumO O [a, b]) = out) False := by
 exact Sx.if_true (by rw [show inUs 18446744073709551616 [a, b] = true by simp only [inUs, List.all_cons, List.all_nil, h0, h1]; rfl]; rfl) ho
theorem wpc_pback (O : OO) (Y : OY) (a b : Int) (out : Value) (F : FO O) (hy : Y = yO O) (h0 : inU a 18446744073709551616 = true) (h1 : inU b 18446744073709551616 = true) (ho : .int .u64 (O.fadd (O.fadd 0 a) b) = out) : wpcI Try.prog (spP0 O Y) Try.f41.ntmps [] (bodyOf Try.f41) 0 0 (argEnv [.int .u64 a, .int .u64 b] 0) [] (retK Try.prog Try.f41.results.toList out) :=
 Eq.mpr (by kernel_rfl) (vc_pback O Y a b out F hy h0 h1 ho)
theorem ok_pback (I : Sx.Interp) (O : OO) (hO : O = oo) (Y : OY) (hY : Y = yO O) : Sx.SpecOK I Try.prog 41 (Sx.vspec (g_pback O Y)) := by
 refine spec_walk (n := 2) (spP0_ok I O hO Y hY) (by kernel_rfl) [] Try.func41 (by kernel_rfl) (by kernel_rfl) rfl Try.ntmps41 (by decide) ?_ ?_
 ·intro l p v hg; unfold g_pback at hg; split at hg <;> first | rfl | cases hg
 ·intro l v hg
  unfold g_pback at hg
  split at hg
  ·rename_i a b
   simp only [Option.some.injEq, Prod.mk.injEq, Bool.and_eq_true] at hg
   obtain ⟨⟨q0, q1⟩, rfl⟩ := hg
   exact wpc_pback O Y a b  _ (fo_oo O hO) hY q0 q1  rfl
  ·cases hg
def g_rback (O : OO) (Y : OY) (l : List Value) : Option (Bool × Value) := match l with
 | [.int .u64 a, .int .u64 b] => some ((inU a 18446744073709551616) && (inU b 18446744073709551616), .int .u64 (O.fadd a b))
 | _ => none
def g_pshows (O : OO) (Y : OY) (l : List Value) : Option (Bool × Value) := match l with
 | [.int .u64 q, .int .u64 a] => some ((inU q 18446744073709551616) && (inU a 18446744073709551616), .bool (bif O.pright q then iBeq (O.pbase a) q else false))
 | _ => none
set_option maxHeartbeats 4000000 in
theorem vc_pshows (O : OO) (Y : OY) (q a : Int) (out : Value) (F : FO O) (hy : Y = yO O) (h0 : inU q 18446744073709551616 = true) (h1 : inU a 18446744073709551616 = true) (ho : .bool (bif O.pright q then iBeq (O.pbase a) q else false) = out) :
 If (inU q 18446744073709551616) (If (O.pright q) (If (inU a 18446744073709551616) (Value.bool (iBeq (O.pbase a) q) = out) False) (Value.bool false = out)) False := by
 subst ho
 exact Sx.if_true h0 (Sx.if_both (fun h => Sx.if_true h1 (by rw [h]; rfl)) (fun h => by rw [h]; rfl))
theorem wpc_pshows (O : OO) (Y : OY) (q a : Int) (out : Value) (F : FO O) (hy : Y = yO O) (h0 : inU q 18446744073709551616 = true) (h1 : inU a 18446744073709551616 = true) (ho : .bool (bif O.pright q then iBeq (O.pbase a) q else false) = out) : wpcI Try.prog (spP0 O Y) Try.f40.ntmps [] (bodyOf Try.f40) 0 0 (argEnv [.int .u64 q, .int .u64 a] 0) [] (retK Try.prog Try.f40.results.toList out) :=
 Eq.mpr (by kernel_rfl) (vc_pshows O Y q a out F hy h0 h1 ho)
theorem ok_pshows (I : Sx.Interp) (O : OO) (hO : O = oo) (Y : OY) (hY : Y = yO O) : Sx.SpecOK I Try.prog 40 (Sx.vspec (g_pshows O Y)) := by
 refine spec_walk (n := 2) (spP0_ok I O hO Y hY) (by kernel_rfl) [] Try.func40 (by kernel_rfl) (by kernel_rfl) rfl Try.ntmps40 (by decide) ?_ ?_
 ·intro l p v hg; unfold g_pshows at hg; split at hg <;> first | rfl | cases hg
 ·intro l v hg
  unfold g_pshows at hg
  split at hg
  ·rename_i q a
   simp only [Option.some.injEq, Prod.mk.injEq, Bool.and_eq_true] at hg
   obtain ⟨⟨q0, q1⟩, rfl⟩ := hg
   exact wpc_pshows O Y q a  _ (fo_oo O hO) hY q0 q1  rfl
  ·cases hg
def g_rshows (O : OO) (Y : OY) (l : List Value) : Option (Bool × Value) := match l with
 | [.int .u64 q, .int .u64 a] => some ((inU q 18446744073709551616) && (inU a 18446744073709551616), .bool (iBeq (O.pbase a) q))
 | _ => none
def g_points (O : OO) (Y : OY) (xs : List Arg) : Option (Bool × List Ret) := match xs with
 | [.ints l, .ints m] => some ((Nat.ble l.length 1000) && (Nat.ble m.length 1000), [.v (.bool (eqL2 l m))])
 | _ => none
def g_scalars (O : OO) (Y : OY) (xs : List Arg) : Option (Bool × List Ret) := match xs with
 | [.ints l, .ints m] => some ((Nat.ble l.length 1000) && (Nat.ble m.length 1000), [.v (.bool (eqL2 l m))])
 | _ => none
def p_pfrom (O : OO) (Y : OY) (q : Int) (l : List Int) (bs : List Bool) : Post := match bs with
 | [true] => ⟨[.v (.slice none 0 0)], []⟩
 | _ => ⟨[.row 1], [(1, .own 37 (.ints .u64 (fromO O q l)))]⟩
def g_pfrom (O : OO) (Y : OY) (ds : List Dt) : Option (Bool × List Bool × (List Bool → Post)) := match ds with
 | [.v (.int .u64 q), .ints l] => some ((inU q 18446744073709551616) && (inUs 18446744073709551616 l) && (Nat.ble l.length 1000), [frB O q l.length], p_pfrom O Y q l)
 | _ => none
set_option maxHeartbeats 4000000 in
theorem vc_pfrom_t (O : OO) (Y : OY) (q : Int) (l : List Int) (F : FO O) (hy : Y = yO O) (h2 : inU q 18446744073709551616 = true) (h0 : inUs 18446744073709551616 l = true) (h1 : Nat.ble l.length 1000 = true) (hb : (frB O q l.length) = true) :
 If (inU q 18446744073709551616) (If (!O.pright q) (True ∧ True) (If (iLe 8 (iOf (Cont.ints .u64 l).n)) (True ∧ True) (If (Nat.beq 1 1 && (iLe 0 (IntKind.i64.wrap (iAdd (iOf
  (Cont.ints .u64 l).n) 1)) && iLe (IntKind.i64.wrap (iAdd (iOf (Cont.ints .u64 l).n) 1)) (IntKind.i64.wrap (iAdd (iOf (Cont.ints .u64 l).n) 1)) && iLe (iMul (iOf 8) (IntKind.i64.wrap
  (iAdd (iOf (Cont.ints .u64 l).n) 1))) 281474976710656 && iLe (IntKind.i64.wrap (iAdd (iOf (Cont.ints .u64 l).n) 1)) 9223372036854775807)) (If (iLe 0 (iOf (Cont.ints .u64 l).n) &&
  (iOf l.length).toNat.blt (List.replicate (α := Int) (IntKind.i64.wrap (iAdd (iOf l.length) 1)).toNat 0).length) (If (Nat.beq 1 1 && Nat.beq 1 1 && Nat.beq 0 0 && decide (IntKind.u64
  = .u64) && (iOf l.length).toNat.blt (List.replicate (α := Int) (IntKind.i64.wrap (iAdd (iOf l.length) 1)).toNat 0).length) ((∃ (x : Nat), x ≤ l.length ∧ (Value.int .i64 0 =
  Value.int .i64 (iOf x) ∧ Value.int .u64 q = Value.int .u64 q ∧ Value.int .i64 (iOf l.length) = Value.int .i64 (iOf l.length) ∧ Value.int .i64 (iOf l.length) = Value.int .i64 (iOf
  l.length) ∧ True) ∧ EqI ((List.replicate (α := Int) (IntKind.i64.wrap (iAdd (iOf l.length) 1)).toNat 0).set (iOf l.length).toNat q) (app (List.replicate (α := Int) (nSub l.length x)
  0) (fromO O q (List.drop (nSub l.length x) l))) ∧ EqI l l ∧ True) ∧ ∀ (x : Nat), x ≤ l.length → If (iLt (iOf x) (iOf (Cont.ints .u64 l).n)) (If (iLe 0 (IntKind.i64.wrap (iAdd
  (IntKind.i64.wrap (iSub (IntKind.i64.wrap (iSub (iOf (Cont.ints .u64 l).n) 1)) (iOf x))) 1)) && (IntKind.i64.wrap (iAdd (IntKind.i64.wrap (iSub (IntKind.i64.wrap (iSub (iOf
  l.length) 1)) (iOf x))) 1)).toNat.blt (app (List.replicate (α := Int) (nSub l.length x) 0) (fromO O q (List.drop (nSub l.length x) l))).length) (If (true && Nat.beq 1 1 &&
  (IntKind.i64.wrap (iAdd (IntKind.i64.wrap (iSub (IntKind.i64.wrap (iSub (iOf l.length) 1)) (iOf x))) 1)).toNat.blt (app (List.replicate (α := Int) (nSub l.length x) 0) (fromO O q
  (List.drop (nSub l.length x) l))).length) (If (iLe 0 (IntKind.i64.wrap (iSub (IntKind.i64.wrap (iSub (iOf (Cont.ints .u64 l).n) 1)) (iOf x))) && (IntKind.i64.wrap (iSub
  (IntKind.i64.wrap (iSub (iOf l.length) 1)) (iOf x))).toNat.blt l.length) (If (true && Nat.beq 1 1 && (IntKind.i64.wrap (iSub (IntKind.i64.wrap (iSub (iOf l.length) 1)) (iOf
  x))).toNat.blt l.length) (If (inU (l.getD (IntKind.i64.wrap (iSub (IntKind.i64.wrap (iSub (iOf l.length) 1)) (iOf x))).toNat 0) 18446744073709551616) (If (inU ((app (List.replicate
  (α := Int) (nSub l.length x) 0) (fromO O q (List.drop (nSub l.length x) l))).getD (IntKind.i64.wrap (iAdd (IntKind.i64.wrap (iSub (IntKind.i64.wrap (iSub (iOf l.length) 1)) (iOf
  x))) 1)).toNat 0) 18446744073709551616 && inU (O.pbase (l.getD (IntKind.i64.wrap (iSub (IntKind.i64.wrap (iSub (iOf l.length) 1)) (iOf x))).toNat 0)) 18446744073709551616) (If (iLe
  0 (IntKind.i64.wrap (iSub (IntKind.i64.wrap (iSub (iOf (Cont.ints .u64 l).n) 1)) (iOf x))) && (IntKind.i64.wrap (iSub (IntKind.i64.wrap (iSub (iOf l.length) 1)) (iOf x))).toNat.blt
  (app (List.replicate (α := Int) (nSub l.length x) 0) (fromO O q (List.drop (nSub l.length x) l))).length) (If (Nat.beq 1 1 && Nat.beq 1 1 && Nat.beq 0 0 && decide (IntKind.u64 =
  .u64) && (IntKind.i64.wrap (iSub (IntKind.i64.wrap (iSub (iOf l.length) 1)) (iOf x))).toNat.blt (app (List.replicate (α := Int) (nSub l.length x) 0) (fromO O q (List.drop (nSub
  l.length x) l))).length) (∃ (x' : Nat), x' ≤ l.length ∧ (nSub l.length x').succ ≤ nSub l.length x ∧ (Value.int .i64 (IntKind.i64.wrap (iAdd (iOf x) 1)) = Value.int .i64 (iOf x') ∧
  Value.int .u64 q = Value.int .u64 q ∧ Value.int .i64 (iOf l.length) = Value.int .i64 (iOf l.length) ∧ Value.int .i64 (iOf l.length) = Value.int .i64 (iOf l.length) ∧ True) ∧ EqI
  ((app (List.replicate (α := Int) (nSub l.length x) 0) (fromO O q (List.drop (nSub l.length x) l))).set (IntKind.i64.wrap (iSub (IntKind.i64.wrap (iSub (iOf l.length) 1)) (iOf
  x))).toNat (O.padd ((app (List.replicate (α := Int) (nSub l.length x) 0) (fromO O q (List.drop (nSub l.length x) l))).getD (IntKind.i64.wrap (iAdd (IntKind.i64.wrap (iSub
  (IntKind.i64.wrap (iSub (iOf l.length) 1)) (iOf x))) 1)).toNat 0) (O.pbase (l.getD (IntKind.i64.wrap (iSub (IntKind.i64.wrap (iSub (iOf l.length) 1)) (iOf x))).toNat 0)))) (app
  (List.replicate (α := Int) (nSub l.length x') 0) (fromO O q (List.drop (nSub l.length x') l))) ∧ EqI l l ∧ True) False) False) False) False) False) False) False) False) False)
  False) False) False))) False := by
 simp only [Sx.app, Sx.nAdd, Sx.nSub, Sx.nMul, Sx.nPow, Sx.nDiv, Sx.nMod, Sx.iAdd, Sx.iSub, Sx.iMul, Sx.iNeg, Sx.iPow, Sx.iOf]
 unfold frB at hb
 refine Sx.if_true h2 (Sx.if_both (fun h => ⟨trivial, trivial⟩) (fun h => Sx.if_both (fun h' => ⟨trivial, trivial⟩) (fun h' => ?_)))
 rw [h] at hb
 simp only [cond_false, Bool.and_eq_true, Bool.or_eq_true, Sx.iLt_t, Sx.iLt_f, Sx.iLe_t, Sx.iLe_f, Sx.iEq_t, Sx.iEq_f, Sx.iBeq_t, Sx.iBeq_f, Sx.iBne_t, Sx.iBne_f, Nat.ble_eq, Nat.beq_eq, Sx.Cont.n] at hb h'
 exact absurd hb (by omega)
theorem wpc_pfrom_t (O : OO) (Y : OY) (q : Int) (l : List Int) (F : FO O) (hy : Y = yO O) (h2 : inU q 18446744073709551616 = true) (h0 : inUs 18446744073709551616 l = true) (h1 : Nat.ble l.length 1000 = true) (hb : (frB O q l.length) = true) : wpcI Try.prog (spP0 O Y) Try.f81.ntmps [⟨Nat, [0, 1, 5, 25], [(6, 37, .ints .u64 [])], fun B j => [(6, .row B), (26, .v (.int .i64 (j : Int)))], fun B j => [(B, .own 37 (.ints .u64 (List.replicate (l.length - j) 0 ++ fromO O q (l.drop (l.length - j)))))], fun j => j ≤ l.length, fun j => l.length - j, 0⟩] (bodyOf Try.f81) 0 64 (envP (mks [.v, .ro .u64] [.v (.int .u64 q), .ints l] 0).1 0) (mks [.v, .ro .u64] [.v (.int .u64 q), .ints l] 0).2 (retP Try.prog Try.f81.results.toList 1 (p_pfrom O Y q l [true])) :=
 Eq.mpr (by kernel_rfl) (vc_pfrom_t O Y q l F hy h2 h0 h1 hb)
set_option maxHeartbeats 4000000 in
theorem vc_pfrom_f (O : OO) (Y : OY) (q : Int) (l : List Int) (F : FO O) (hy : Y = yO O) (h2 : inU q 18446744073709551616 = true) (h0 : inUs 18446744073709551616 l = true) (h1 : Nat.ble l.length 1000 = true) (hb : (frB O q l.length) = false) :
 If (inU q 18446744073709551616) (If (!O.pright q) (SV.v (Value.slice none 0 0) = SV.row 1 ∧ True ∧ False) (If (iLe 8 (iOf (Cont.ints .u64 l).n)) (SV.v (Value.slice none 0 0) =
  SV.row 1 ∧ True ∧ False) (If (Nat.beq 1 1 && (iLe 0 (IntKind.i64.wrap (iAdd (iOf (Cont.ints .u64 l).n) 1)) && iLe (IntKind.i64.wrap (iAdd (iOf (Cont.ints .u64 l).n) 1))
  (IntKind.i64.wrap (iAdd (iOf (Cont.ints .u64 l).n) 1)) && iLe (iMul (iOf 8) (IntKind.i64.wrap (iAdd (iOf (Cont.ints .u64 l).n) 1))) 281474976710656 && iLe (IntKind.i64.wrap (iAdd
  (iOf (Cont.ints .u64 l).n) 1)) 9223372036854775807)) (If (iLe 0 (iOf (Cont.ints .u64 l).n) && (iOf l.length).toNat.blt (List.replicate (α := Int) (IntKind.i64.wrap (iAdd (iOf
  l.length) 1)).toNat 0).length) (If (Nat.beq 1 1 && Nat.beq 1 1 && Nat.beq 0 0 && decide (IntKind.u64 = .u64) && (iOf l.length).toNat.blt (List.replicate (α := Int) (IntKind.i64.wrap
  (iAdd (iOf l.length) 1)).toNat 0).length) ((∃ (x : Nat), x ≤ l.length ∧ (Value.int .i64 0 = Value.int .i64 (iOf x) ∧ Value.int .u64 q = Value.int .u64 q ∧ Value.int .i64 (iOf
  l.length) = Value.int .i64 (iOf l.length) ∧ Value.int .i64 (iOf l.length) = Value.int .i64 (iOf l.length) ∧ True) ∧ EqI ((List.replicate (α := Int) (IntKind.i64.wrap (iAdd (iOf
  l.length) 1)).toNat 0).set (iOf l.length).toNat q) (app (List.replicate (α := Int) (nSub l.length x) 0) (fromO O q (List.drop (nSub l.length x) l))) ∧ EqI l l ∧ True) ∧ ∀ (x : Nat),
  x ≤ l.length → If (iLt (iOf x) (iOf (Cont.ints .u64 l).n)) (If (iLe 0 (IntKind.i64.wrap (iAdd (IntKind.i64.wrap (iSub (IntKind.i64.wrap (iSub (iOf (Cont.ints .u64 l).n) 1)) (iOf
  x))) 1)) && (IntKind.i64.wrap (iAdd (IntKind.i64.wrap (iSub (IntKind.i64.wrap (iSub (iOf l.length) 1)) (iOf x))) 1)).toNat.blt (app (List.replicate (α := Int) (nSub l.length x) 0)
  (fromO O q (List.drop (nSub l.length x) l))).length) (If (true && Nat.beq 1 1 && (IntKind.i64.wrap (iAdd (IntKind.i64.wrap (iSub (IntKind.i64.wrap (iSub (iOf l.length) 1)) (iOf x)))
  1)).toNat.blt (app (List.replicate (α := Int) (nSub l.length x) 0) (fromO O q (List.drop (nSub l.length x) l))).length) (If (iLe 0 (IntKind.i64.wrap (iSub (IntKind.i64.wrap (iSub
  (iOf (Cont.ints .u64 l).n) 1)) (iOf x))) && (IntKind.i64.wrap (iSub (IntKind.i64.wrap (iSub (iOf l.length) 1)) (iOf x))).toNat.blt l.length) (If (true && Nat.beq 1 1 &&
  (IntKind.i64.wrap (iSub (IntKind.i64.wrap (iSub (iOf l.length) 1)) (iOf x))).toNat.blt l.length) (If (inU (l.getD (IntKind.i64.wrap (iSub (IntKind.i64.wrap (iSub (iOf l.length) 1))
  (iOf x))).toNat 0) 18446744073709551616) (If (inU ((app (List.replicate (α := Int) (nSub l.length x) 0) (fromO O q (List.drop (nSub l.length x) l))).getD (IntKind.i64.wrap (iAdd
  (IntKind.i64.wrap (iSub (IntKind.i64.wrap (iSub (iOf l.length) 1)) (iOf x))) 1)).toNat 0) 18446744073709551616 && inU (O.pbase (l.getD (IntKind.i64.wrap (iSub (IntKind.i64.wrap
  (iSub (iOf l.length) 1)) (iOf x))).toNat 0)) 18446744073709551616) (If (iLe 0 (IntKind.i64.wrap (iSub (IntKind.i64.wrap (iSub (iOf (Cont.ints .u64 l).n) 1)) (iOf x))) &&
  (IntKind.i64.wrap (iSub (IntKind.i64.wrap (iSub (iOf l.length) 1)) (iOf x))).toNat.blt (app (List.replicate (α := Int) (nSub l.length x) 0) (fromO O q (List.drop (nSub l.length x)
  l))).length) (If (Nat.beq 1 1 && Nat.beq 1 1 && Nat.beq 0 0 && decide (IntKind.u64 = .u64) && (IntKind.i64.wrap (iSub (IntKind.i64.wrap (iSub (iOf l.length) 1)) (iOf x))).toNat.blt
  (app (List.replicate (α := Int) (nSub l.length x) 0) (fromO O q (List.drop (nSub l.length x) l))).length) (∃ (x' : Nat), x' ≤ l.length ∧ (nSub l.length x').succ ≤ nSub l.length x ∧
  (Value.int .i64 (IntKind.i64.wrap (iAdd (iOf x) 1)) = Value.int .i64 (iOf x') ∧ Value.int .u64 q = Value.int .u64 q ∧ Value.int .i64 (iOf l.length) = Value.int .i64 (iOf l.length) ∧
  Value.int .i64 (iOf l.length) = Value.int .i64 (iOf l.length) ∧ True) ∧ EqI ((app (List.replicate (α := Int) (nSub l.length x) 0) (fromO O q (List.drop (nSub l.length x) l))).set
  (IntKind.i64.wrap (iSub (IntKind.i64.wrap (iSub (iOf l.length) 1)) (iOf x))).toNat (O.padd ((app (List.replicate (α := Int) (nSub l.length x) 0) (fromO O q (List.drop (nSub l.length
  x) l))).getD (IntKind.i64.wrap (iAdd (IntKind.i64.wrap (iSub (IntKind.i64.wrap (iSub (iOf l.length) 1)) (iOf x))) 1)).toNat 0) (O.pbase (l.getD (IntKind.i64.wrap (iSub
  (IntKind.i64.wrap (iSub (iOf l.length) 1)) (iOf x))).toNat 0)))) (app (List.replicate (α := Int) (nSub l.length x') 0) (fromO O q (List.drop (nSub l.length x') l))) ∧ EqI l l ∧
  True) False) False) False) False) False) False) False) False) (True ∧ EqI (app (List.replicate (α := Int) (nSub l.length x) 0) (fromO O q (List.drop (nSub l.length x) l))) (fromO O
  q l) ∧ True)) False) False) False))) False := by
 simp only [Sx.app, Sx.nAdd, Sx.nSub, Sx.nMul, Sx.nPow, Sx.nDiv, Sx.nMod, Sx.iAdd, Sx.iSub, Sx.iMul, Sx.iNeg, Sx.iPow, Sx.iOf]
 obtain ⟨hq, hn⟩ := frB_no hb
 have e0 : IntKind.i64.wrap ((l.length : Int) + 1) = ((l.length + 1 : Nat) : Int) := wrap_succ (by omega)
 refine Sx.if_true h2 (Sx.if_false (by rw [hq]; rfl) (Sx.if_false (by simp only [Bool.and_eq_true, Bool.or_eq_true, Sx.iLt_t, Sx.iLt_f, Sx.iLe_t, Sx.iLe_f, Sx.iEq_t, Sx.iEq_f, Sx.iBeq_t, Sx.iBeq_f, Sx.iBne_t, Sx.iBne_f, Nat.ble_eq, Nat.beq_eq, Sx.Cont.n, true_and, and_true]; omega) ?_))
 have fc : ∀ k, List.replicate k 0 ++ fromO O q (l.drop k) = fromC O q l k := fun _ => rfl
 have c0 : (List.replicate (l.length + 1) (0 : Int)).set l.length q = fromC O q l l.length := by
  rw [fromC_end, List.replicate_succ', List.set_append_right _ _ (by rw [List.length_replicate]; exact Nat.le_refl _), List.length_replicate, Nat.sub_self]
  rfl
 have c8 : ((8 : Nat) : Int) = 8 := rfl
 simp only [Sx.Cont.n, e0, Int.toNat_natCast, fc, c8]
 refine Sx.if_true (by simp only [Bool.and_eq_true, Bool.or_eq_true, Sx.iLt_t, Sx.iLt_f, Sx.iLe_t, Sx.iLe_f, Sx.iEq_t, Sx.iEq_f, Sx.iBeq_t, Sx.iBeq_f, Sx.iBne_t, Sx.iBne_f, Nat.ble_eq, Nat.beq_eq, Sx.Cont.n, true_and, and_true]; omega) (Sx.if_true (by simp only [Bool.and_eq_true, Bool.or_eq_true, Sx.iLt_t, Sx.iLt_f, Sx.iLe_t, Sx.iLe_f, Sx.iEq_t, Sx.iEq_f, Sx.iBeq_t, Sx.iBeq_f, Sx.iBne_t, Sx.iBne_f, Nat.ble_eq, Nat.beq_eq, Sx.Cont.n, true_and, and_true, Nat.blt_eq, List.length_replicate]; omega) (Sx.if_true (by simp only [Bool.and_eq_true, Bool.or_eq_true, Sx.iLt_t, Sx.iLt_f, Sx.iLe_t, Sx.iLe_f, Sx.iEq_t, Sx.iEq_f, Sx.iBeq_t, Sx.iBeq_f, Sx.iBne_t, Sx.iBne_f, Nat.ble_eq, Nat.beq_eq, Sx.Cont.n, true_and, and_true, Nat.blt_eq, List.length_replicate, decide_true]; omega) ?_))
 refine ⟨⟨0, Nat.zero_le _, ⟨rfl, (by first | rfl | trivial)⟩, c0, (by first | rfl | trivial)⟩, fun x hx => Sx.if_both (fun h => ?_) (fun h => ?_)⟩
 ·simp only [Bool.and_eq_true, Bool.or_eq_true, Sx.iLt_t, Sx.iLt_f, Sx.iLe_t, Sx.iLe_f, Sx.iEq_t, Sx.iEq_f, Sx.iBeq_t, Sx.iBeq_f, Sx.iBne_t, Sx.iBne_f, Nat.ble_eq, Nat.beq_eq, Sx.Cont.n] at h
  have hlt : x < l.length := by omega
  have e1 : IntKind.i64.wrap ((l.length : Int) - 1) = (l.length : Int) - 1 := IntWalk.i64_in _ (by omega)
  obtain ⟨k, ek⟩ : ∃ k, k = l.length - 1 - x := ⟨_, rfl⟩
  have e2 : IntKind.i64.wrap ((l.length : Int) - 1 - x) = ((k : Nat) : Int) := by rw [IntWalk.i64_in _ (by omega)]; omega
  have e3 : IntKind.i64.wrap ((k : Int) + 1) = ((k + 1 : Nat) : Int) := wrap_succ (by omega)
  have e4 : l.length - x = k + 1 := by omega
  have hk : k < l.length := by omega
  have hbl : k.blt l.length = true := by rw [Nat.blt_eq]; exact hk
  simp only [e1, e2, e3, e4, Int.toNat_natCast]
  have hlen := fromC_len O q (l := l) (k := k + 1) (by omega)
  refine Sx.if_true (by simp only [Bool.and_eq_true, Bool.or_eq_true, Sx.iLt_t, Sx.iLt_f, Sx.iLe_t, Sx.iLe_f, Sx.iEq_t, Sx.iEq_f, Sx.iBeq_t, Sx.iBeq_f, Sx.iBne_t, Sx.iBne_f, Nat.ble_eq, Nat.beq_eq, Sx.Cont.n, true_and, and_true, Nat.blt_eq, hlen]; omega) (Sx.if_true (by simp only [Bool.and_eq_true, Bool.or_eq_true, Sx.iLt_t, Sx.iLt_f, Sx.iLe_t, Sx.iLe_f, Sx.iEq_t, Sx.iEq_f, Sx.iBeq_t, Sx.iBeq_f, Sx.iBne_t, Sx.iBne_f, Nat.ble_eq, Nat.beq_eq, Sx.Cont.n, true_and, and_true, Nat.blt_eq, hlen]; omega) (Sx.if_true (by simp only [Bool.and_eq_true, Bool.or_eq_true, Sx.iLt_t, Sx.iLt_f, Sx.iLe_t, Sx.iLe_f, Sx.iEq_t, Sx.iEq_f, Sx.iBeq_t, Sx.iBeq_f, Sx.iBne_t, Sx.iBne_f, Nat.ble_eq, Nat.beq_eq, Sx.Cont.n, true_and, and_true, Nat.blt_eq]; omega) (Sx.if_true (by simp only [Bool.and_eq_true, Bool.or_eq_true, Sx.iLt_t, Sx.iLt_f, Sx.iLe_t, Sx.iLe_f, Sx.iEq_t, Sx.iEq_f, Sx.iBeq_t, Sx.iBeq_f, Sx.iBne_t, Sx.iBne_f, Nat.ble_eq, Nat.beq_eq, Sx.Cont.n, true_and, and_true, Nat.blt_eq]; omega) (Sx.if_true (inUs_at h0 hk) (Sx.if_true (by rw [fromC_at F h2 (by omega), F.pbase]; rfl) (Sx.if_true (by simp only [Bool.and_eq_true, Bool.or_eq_true, Sx.iLt_t, Sx.iLt_f, Sx.iLe_t, Sx.iLe_f, Sx.iEq_t, Sx.iEq_f, Sx.iBeq_t, Sx.iBeq_f, Sx.iBne_t, Sx.iBne_f, Nat.ble_eq, Nat.beq_eq, Sx.Cont.n, true_and, and_true, Nat.blt_eq, hlen]; omega) (Sx.if_true (by simp only [Bool.and_eq_true, Bool.or_eq_true, Sx.iLt_t, Sx.iLt_f, Sx.iLe_t, Sx.iLe_f, Sx.iEq_t, Sx.iEq_f, Sx.iBeq_t, Sx.iBeq_f, Sx.iBne_t, Sx.iBne_f, Nat.ble_eq, Nat.beq_eq, Sx.Cont.n, true_and, and_true, Nat.blt_eq, hlen, decide_true]; omega) ?_)))))))
  refine ⟨x + 1, hlt, by omega, ⟨by rw [wrap_succ (by omega)], (by first | rfl | trivial)⟩, ?_, (by first | rfl | trivial)⟩
  rw [show l.length - (x + 1) = k by omega]
  exact fromC_set O q hk
 ·simp only [Bool.and_eq_true, Bool.or_eq_true, Sx.iLt_t, Sx.iLt_f, Sx.iLe_t, Sx.iLe_f, Sx.iEq_t, Sx.iEq_f, Sx.iBeq_t, Sx.iBeq_f, Sx.iBne_t, Sx.iBne_f, Nat.ble_eq, Nat.beq_eq, Sx.Cont.n] at h
  have hx2 : x = l.length := by omega
  subst hx2
  rw [Nat.sub_self]
  exact ⟨trivial, rfl, trivial⟩
theorem wpc_pfrom_f (O : OO) (Y : OY) (q : Int) (l : List Int) (F : FO O) (hy : Y = yO O) (h2 : inU q 18446744073709551616 = true) (h0 : inUs 18446744073709551616 l = true) (h1 : Nat.ble l.length 1000 = true) (hb : (frB O q l.length) = false) : wpcI Try.prog (spP0 O Y) Try.f81.ntmps [⟨Nat, [0, 1, 5, 25], [(6, 37, .ints .u64 [])], fun B j => [(6, .row B), (26, .v (.int .i64 (j : Int)))], fun B j => [(B, .own 37 (.ints .u64 (List.replicate (l.length - j) 0 ++ fromO O q (l.drop (l.length - j)))))], fun j => j ≤ l.length, fun j => l.length - j, 0⟩] (bodyOf Try.f81) 0 64 (envP (mks [.v, .ro .u64] [.v (.int .u64 q), .ints l] 0).1 0) (mks [.v, .ro .u64] [.v (.int .u64 q), .ints l] 0).2 (retP Try.prog Try.f81.results.toList 1 (p_pfrom O Y q l [false])) :=
 Eq.mpr (by kernel_rfl) (vc_pfrom_f O Y q l F hy h2 h0 h1 hb)
theorem ok_pfrom (I : Sx.Interp) (O : OO) (hO : O = oo) (Y : OY) (hY : Y = yO O) : Sx.SpecOK I Try.prog 81 (pspec [.v, .ro .u64] false (g_pfrom O Y)) := by
 refine spec_pat (spP0_ok I O hO Y hY) (by kernel_rfl) (fun ds => match ds with | [.v (.int .u64 q), .ints l] => [⟨Nat, [0, 1, 5, 25], [(6, 37, .ints .u64 [])], fun B j => [(6, .row B), (26, .v (.int .i64 (j : Int)))], fun B j => [(B, .own 37 (.ints .u64 (List.replicate (l.length - j) 0 ++ fromO O q (l.drop (l.length - j)))))], fun j => j ≤ l.length, fun j => l.length - j, 0⟩] | _ => []) Try.func81 (by kernel_rfl) (by kernel_rfl) rfl Try.ntmps81 (by decide) ?_ ?_
 ·intro ds p bs F h
  unfold g_pfrom at h
  split at h
  ·rename_i q l
   simp only [Option.some.injEq, Prod.mk.injEq] at h
   obtain ⟨_, rfl, rfl⟩ := h
   generalize (frB O q l.length) = t
   cases t <;> kernel_rfl
  ·cases h
 ·intro ds bs F hl h
  unfold g_pfrom at h
  split at h
  ·rename_i q l
   simp only [Option.some.injEq, Prod.mk.injEq, Bool.and_eq_true] at h
   obtain ⟨⟨⟨h2, h0⟩, h1⟩, rfl, rfl⟩ := h
   cases hb : (frB O q l.length) with
   | true => exact wpcI_of (wpc_pfrom_t O Y q l (fo_oo O hO) hY h2 h0 h1 hb)
   | false => exact wpcI_of (wpc_pfrom_f O Y q l (fo_oo O hO) hY h2 h0 h1 hb)
  ·cases h
def p_rfrom (O : OO) (Y : OY) (q : Int) (l : List Int) (bs : List Bool) : Post := match bs with
 | [true] => ⟨[.v (.slice none 0 0)], []⟩
 | _ => ⟨[.row 1], [(1, .own 37 (.ints .u64 (rfromO O q l (l.length + 1))))]⟩
def g_rfrom (O : OO) (Y : OY) (ds : List Dt) : Option (Bool × List Bool × (List Bool → Post)) := match ds with
 | [.v (.int .u64 q), .ints l] => some ((inU q 18446744073709551616) && (inUs 18446744073709551616 l) && (Nat.ble l.length 1000), [frB O q l.length], p_rfrom O Y q l)
 | _ => none