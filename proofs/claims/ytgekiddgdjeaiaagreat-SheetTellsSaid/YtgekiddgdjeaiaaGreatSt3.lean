/- The document's state as bytes, there and back (printed by genSt3.py; VCs by VcTool). -/
import Derived.Test.YtgekiddgdjeaiaaGreatSb
import Derived.Test.YtgekiddgdjeaiaaGreatR9
namespace Go.Proofs.YtgekiddgdjeaiaaGreat
open Go.RowKit Go.Lib Ckp Cfd Cpd Sx
open IntKind (i64 u64 u8 i32 u32)
set_option linter.unusedVariables false
set_option linter.unusedSimpArgs false
set_option maxRecDepth 1000000
set_option maxHeartbeats 4000000
def u64f (n b : Int) : Int := u64.wrap (((BitVec.ofInt 64 (u64.wrap (n * 2 ^ 8)) ||| BitVec.ofInt 64 b).toNat : Nat) : Int)
theorem a1k {a d : Int} (ha : 0 ≤ a ∧ a < 72057594037927936) (hd : 0 ≤ d ∧ d < 256) : u64f a d = 256 * a + d := by
 obtain ⟨x, rfl⟩ : ∃ x : Nat, a = x := ⟨a.toNat, by omega⟩
 obtain ⟨y, rfl⟩ : ∃ y : Nat, d = y := ⟨d.toNat, by omega⟩
 have e1 : (BitVec.ofInt 64 (u64.wrap ((x : Int) * 2 ^ 8))).toNat = 2 ^ 8 * x := by
  rw [aou, BitVec.toNat_ofInt]
  simp only [Nat.reducePow, Int.reducePow] at *
  omega
 have e2 : (BitVec.ofInt 64 (y : Int)).toNat = y := by
  rw [BitVec.toNat_ofInt]
  simp only [Nat.reducePow] at *
  omega
 unfold u64f
 rw [BitVec.toNat_or, e1, e2, ← Nat.two_pow_add_eq_or_of_lt (i := 8) (by omega), IntKind.wrap_u64]
 simp only [Nat.reducePow]
 omega
theorem bkv {R : OB} (hr : R = bO) (l : List Int) : inU (R.u64 l) 18446744073709551616 = true := by
 subst hr
 have key : ∀ (l : List Int) (n : Int), 0 ≤ n ∧ n < 18446744073709551616 → 0 ≤ l.foldl u64f n ∧ l.foldl u64f n < 18446744073709551616 := by
  intro l
  induction l with
  | nil => exact fun n h => h
  | cons d l ih =>
   intro n h
   refine ih _ ?_
   unfold u64f
   rw [IntKind.wrap_u64]; omega
 have h := key l 0 (by omega)
 show inU (als l) 18446744073709551616 = true
 have e : als l = ((als l).toNat : Nat) := by
  have : 0 ≤ als l := h.1
  omega
 rw [e]
 exact ako (by have : als l < 18446744073709551616 := h.2; have : 0 ≤ als l := h.1; omega)
theorem a1w (R : OB) (k : Nat) (l : List Int) (L : List (List Int)) : sdF R k l true L = (l, true, L) := by cases k <;> rfl
theorem a3g {R : OB} (hr : R = bO) : ∀ (k : Nat) (l : List Int) (no : Bool) (L : List (List Int)), pqB L = true → pqB (sdF R k l no L).2.2 = true ∧ (sdF R k l no L).2.2.length + (sdF R k l no L).1.length ≤ L.length + l.length + (bif no then 0 else bif (sdF R k l no L).2.1 then 1 else 0)
 | k, l, true, L, h => by
  rw [a1w]
  exact ⟨h, Nat.le_refl _⟩
 | 0, l, false, L, h => ⟨h, by show L.length + l.length ≤ _; omega⟩
 | k + 1, l, false, L, h => by
  have e : sdF R (k + 1) l false L = sdF R k (aec (cdL R l) (cdO R l false)) (ae9 (cdL R l) (cdO R l false)) (L ++ [cdX R l false]) := rfl
  have hs := akr hr l
  have hp : pqB (L ++ [cdX R l false]) = true := by
   unfold pqB at h ⊢
   rw [List.all_append, h]
   show (true && ((inU (apo R (cdL R l) (cdO R l false)) 18446744073709551616 && true) && true)) = true
   rw [show inU (apo R (cdL R l) (cdO R l false)) 18446744073709551616 = true from bkv hr _]; rfl
  have ih := a3g hr k (aec (cdL R l) (cdO R l false)) (ae9 (cdL R l) (cdO R l false)) (L ++ [cdX R l false]) hp
  rw [e]
  refine ⟨ih.1, ?_⟩
  have i2 := ih.2
  cases c : ae9 (cdL R l) (cdO R l false)
  ·rw [c] at i2 hs
   simp only [zlA, List.length_cons, List.length_nil, cond_false] at i2 hs ⊢
   omega
  ·rw [c] at hs
   rw [a1w]
   simp only [zlA, List.length_cons, List.length_nil, cond_true, cond_false] at hs ⊢
   omega
theorem bhc {R : OB} (hr : R = bO) {b : List Int} (h : xn R b = true) : pqB (snC R b) = true ∧ (snC R b).length ≤ b.length := by
 have a := a3g hr (hdN R b).toNat (hdL R b) (hdO R b) [] rfl
 have e : sdF R (hdN R b).toNat (hdL R b) (hdO R b) [] = snE R b := rfl
 rw [e] at a
 have hs : snC R b = (snE R b).2.2 := by unfold snC; rw [h]; rfl
 have hno : (snE R b).2.1 = false := by
  unfold xn at h
  cases c : (snE R b).2.1
  ·rfl
  ·rw [c] at h; cases h
 have k0 : (hdL R b).length ≤ b.length := Nat.le_trans (nRl hr (cdL R b)) (amj hr b)
 rw [hs]
 refine ⟨a.1, ?_⟩
 have i2 := a.2
 rw [hno] at i2
 have z : (bif hdO R b then 0 else bif false then 1 else 0) = (0 : Nat) := by cases hdO R b <;> rfl
 rw [z] at i2
 simp only [List.length_nil] at i2
 omega
end Go.Proofs.YtgekiddgdjeaiaaGreat

namespace Go.Proofs.YtgekiddgdjeaiaaGreat
open Go.RowKit Go.Lib Ckp Cfd Cpd Sx
open IntKind (i64 u64 u8 i32 u32)
set_option linter.unusedVariables false
set_option linter.unusedSimpArgs false
set_option maxRecDepth 1000000
set_option maxHeartbeats 4000000

theorem asf {R : OB} (hr : R = bO) {X : List Int} {k : Nat} (h : k < X.length) : ab4 R X (k + 1) = u64f (ab4 R X k) (X.getD k 0) := by
 subst hr
 unfold ab4
 show als (X.take (k + 1)) = u64f (als (X.take k)) (X.getD k 0)
 rw [abm 0 h]
 unfold als
 rw [List.foldl_append]; rfl
theorem avm {X : List Int} (hb : byB X = true) {k : Nat} (h : k < X.length) : 0 ≤ X.getD k 0 ∧ X.getD k 0 < 256 := by
 have e : X.getD k 0 = X[k] := by rw [List.getD_eq_getElem?_getD, List.getElem?_eq_getElem h]; rfl
 rw [e]
 exact aau.1 hb _ (List.getElem_mem h)
theorem aw9 {R : OB} (hr : R = bO) {X : List Int} (hb : byB X = true) : ∀ k, k ≤ X.length → k ≤ 8 → 0 ≤ ab4 R X k ∧ ab4 R X k < 256 ^ k
 | 0, _, _ => by subst hr; exact ⟨Int.le_refl _, (by show (0 : Int) < 1; omega)⟩
 | k + 1, hk, h8 => by
  obtain ⟨h0, h1⟩ := aw9 hr hb k (by omega) (by omega)
  have hd := avm hb (k := k) (by omega)
  have hp : (256 : Int) ^ k ≤ 256 ^ 7 := by exact_mod_cast Nat.pow_le_pow_right (show 0 < 256 by decide) (show k ≤ 7 by omega)
  have h7 : ab4 R X k < 72057594037927936 := by simp only [Int.reducePow] at hp; omega
  rw [asf hr (by omega), a1k ⟨h0, h7⟩ hd, Int.pow_succ]
  omega
theorem a7l {R : OB} (hr : R = bO) {X : List Int} (hb : byB X = true) {k : Nat} (hk : k < X.length) (h8 : k < 8) : ab4 R X (k + 1) = 256 * ab4 R X k + X.getD k 0 ∧ 0 ≤ ab4 R X k ∧ ab4 R X k < 72057594037927936 := by
 obtain ⟨h0, h1⟩ := aw9 hr hb k (by omega) (by omega)
 have hd := avm hb hk
 have hp : (256 : Int) ^ k ≤ 256 ^ 7 := by exact_mod_cast Nat.pow_le_pow_right (show 0 < 256 by decide) (show k ≤ 7 by omega)
 have h7 : ab4 R X k < 72057594037927936 := by simp only [Int.reducePow] at hp; omega
 exact ⟨by rw [asf hr hk, a1k ⟨h0, h7⟩ hd], h0, h7⟩
def amh (O : OO) (R : OB) (ds : List Dt) : zG := match ds with
 | [.ints b, .v (.int .u64 n)] => some ((Nat.ble b.length 1000000) && (inU n 18446744073709551616), [], fun _ => ⟨[.row 1], [(1, .own 5 (.ints .u8 (b ++ aln n)))]⟩)
 | _ => none
theorem a9i (O : OO) (R : OB) (b : List Int) (n : Int) (F : FO O) (hr : R = bO) (h0 : (Nat.ble b.length 1000000) = true) (h1 : (inU n 18446744073709551616) = true) :
 let T1 := app (app (app (app (app [] b) [u8.wrap (n.fdiv (df 2 56))]) [u8.wrap (n.fdiv (df 2 48))]) [u8.wrap (n.fdiv (df 2 40))]) [u8.wrap (n.fdiv (df 2 32))];
  let T2 := app (app T1 [u8.wrap (n.fdiv (df 2 24))]) [u8.wrap (n.fdiv (df 2 16))]; let T3 := app (app (app [] b) [u8.wrap (n.fdiv (df 2 56))]) [u8.wrap (n.fdiv (df 2 48))];
  let T4 := app T2 [u8.wrap (n.fdiv (df 2 8))]; let T5 := ay (app (app [] b) [u8.wrap (n.fdiv (df 2 56))]).length 1; let T6 := ay (app T3 [u8.wrap (n.fdiv (df 2 40))]).length 1;
  let T7 := ay (app T1 [u8.wrap (n.fdiv (df 2 24))]).length 1; If ((jd (ay 0 b.length) 1).ble 140737488355328 && (ay 0 b.length).ble 9223372036854775807) (If ((jd
  (ay (app [] b).length 1) 1).ble 140737488355328 && (ay (app [] b).length 1).ble 9223372036854775807) (If ((jd T5 1).ble 140737488355328 && T5.ble 9223372036854775807) (If
  ((jd (ay T3.length 1) 1).ble 140737488355328 && (ay T3.length 1).ble 9223372036854775807) (If ((jd T6 1).ble 140737488355328 && T6.ble 9223372036854775807) (If ((jd (ay
  T1.length 1) 1).ble 140737488355328 && (ay T1.length 1).ble 9223372036854775807) (If ((jd T7 1).ble 140737488355328 && T7.ble 9223372036854775807) (If ((jd (ay T2.length 1)
  1).ble 140737488355328 && (ay T2.length 1).ble 9223372036854775807) (If ((jd (ay T4.length 1) 1).ble 140737488355328 && (ay T4.length 1).ble 9223372036854775807) (True ∧ EqI
  (app T4 [u8.wrap (n.fdiv (df 2 0))]) (app b (aln n)) ∧ True) False) False) False) False) False) False) False) False) False := by
 conv => zeta
 have h0' := zbL h0
 refine ziT (by simp only [Sx.app, ay, jd, zaT, Nat.ble_eq, zlA, List.length_cons, List.length_nil]; omega) (ziT (by simp only [Sx.app, ay, jd, zaT, Nat.ble_eq, zlA, List.length_cons, List.length_nil]; omega) (ziT (by simp only [Sx.app, ay, jd, zaT, Nat.ble_eq, zlA, List.length_cons, List.length_nil]; omega) (ziT (by simp only [Sx.app, ay, jd, zaT, Nat.ble_eq, zlA, List.length_cons, List.length_nil]; omega) (ziT (by simp only [Sx.app, ay, jd, zaT, Nat.ble_eq, zlA, List.length_cons, List.length_nil]; omega) (ziT (by simp only [Sx.app, ay, jd, zaT, Nat.ble_eq, zlA, List.length_cons, List.length_nil]; omega) (ziT (by simp only [Sx.app, ay, jd, zaT, Nat.ble_eq, zlA, List.length_cons, List.length_nil]; omega) (ziT (by simp only [Sx.app, ay, jd, zaT, Nat.ble_eq, zlA, List.length_cons, List.length_nil]; omega) (ziT (by simp only [Sx.app, ay, jd, zaT, Nat.ble_eq, zlA, List.length_cons, List.length_nil]; omega) (?_)))))))))
 refine ⟨trivial, ?_, trivial⟩
 show app (app (app (app (app (app (app (app (app [] b) _) _) _) _) _) _) _) _ = app b (aln n)
 simp only [Sx.app, List.nil_append, List.append_assoc, List.cons_append]
 rfl
theorem bbj (I : Sx.Interp) (O : OO) (hO : O = oo) (R : OB) (hR : R = bO) : ag I Tryz.prog 66 (au [.ro .u8, .v] false (amh O R)) := by
 refine o8 (asr I O hO R hR) (by kernel_rfl) (fun ds => match ds with | [.ints b, .v (.int .u64 n)] => [Ann.walk 9] | _ => []) Tryz.func66 (by kernel_rfl) (by kernel_rfl) rfl Tryz.ntmps66 (by decide) ?_ ?_
 ·intro ds p bs F h
  unfold amh at h
  split at h
  ·rename_i b n
   simp only [zsI, zpI] at h
   obtain ⟨_, _, rfl⟩ := h
   kernel_rfl
  ·cases h
 ·intro ds bs F hl h
  unfold amh at h
  split at h
  ·rename_i b n
   simp only [zsI, zpI, zaT] at h
   obtain ⟨⟨h0, h1⟩, _, rfl⟩ := h
   exact Eq.mpr (by kernel_rfl) (a9i O R b n (dn O hO) hR (by first | exact h0 | (simp only [zaT]; exact h0)) (by first | exact h1 | (simp only [zaT]; exact h1)))
  ·cases h
def auo (O : OO) (R : OB) (ds : List Dt) : zG := match ds with
 | [.node [.ints l, .v (.bool no)]] => some ((Nat.ble l.length 1000000) && (byB l), [], fun _ => ⟨[.v (.int .u64 (apo R l no))], [(0, .blk 84 [.row 2, .v (.bool (ae9 l no))]), (2, .ro (.ints .u8 (aec l no)))]⟩)
 | _ => none
theorem bih (O : OO) (R : OB) (l : List Int) (no : Bool) (F : FO O) (hr : R = bO) (h0 : (Nat.ble l.length 1000000) = true) (h1 : (byB l) = true) :
 let T1 := bif bif no then true else iLt (iOf l.length) 8 then [] else List.take 8 l; let T2 := bif bif no then true else iLt (iOf l.length) 8 then [] else List.drop 8 l; let T3 := bif bif no then true else iLt (iOf l.length) 8 then true else no;
  If (l.length.ble 1000000 && iLe 0 8) ((∃ (x : Nat), x ≤ (xu l no).length ∧ (Value.int .u64 0 = Value.int .u64 (ab4 R (xu l no) x) ∧ vI 0 = vI (iOf x) ∧ True) ∧ EqI T1 T1 ∧ vB
  T3 = vB T3 ∧ EqI T2 T2 ∧ EqI l l ∧ True) ∧ ∀ (x : Nat), x ≤ (xu l no).length → If (iLt (iOf x) (iOf (af.ints .u8 (bif bif no then true else iLt (iOf l.length) 8 then [] else
  List.take (Int.toNat 8) l)).n)) (If (iLe 0 (iOf x) && (iOf x).toNat.blt T1.length) (If (true && Nat.beq 1 1 && (iOf x).toNat.blt T1.length) (∃ (x' : Nat), x' ≤ (xu l no).length ∧
  (iy (xu l no).length x').succ ≤ iy (xu l no).length x ∧ (Value.int .u64 (u64.wrap (dh (u64.wrap (aa9 256 (ab4 R (xu l no) x))) (u64.wrap
  (T1.getD (iOf x).toNat 0)))) = Value.int .u64 (ab4 R (xu l no) x') ∧ vI (i64.wrap (dh (iOf x) 1)) = vI (iOf x') ∧ True) ∧ EqI T1 T1 ∧ vB T3 = vB T3 ∧ EqI T2 T2 ∧ EqI l
  l ∧ True) False) False) (Value.int .u64 (ab4 R (xu l no) x) = Value.int .u64 (apo R l no) ∧ True ∧ vB T3 = vB (ae9 l no) ∧ EqI T2 (aec l no) ∧ True)) False := by
 conv => zeta
 have h0' := zbL h0
 have hS0 : (bif bif no then true else iLt (iOf l.length) 8 then [] else List.take 8 l) = xu l no := rfl
 have hS1 : (bif bif no then true else iLt (iOf l.length) 8 then [] else List.take (Int.toNat 8) l) = xu l no := rfl
 have hN : (bif bif no then true else iLt (iOf l.length) 8 then true else no) = ae9 l no := rfl
 have hRR : (bif bif no then true else iLt (iOf l.length) 8 then [] else List.drop 8 l) = aec l no := rfl
 have hV : apo R l no = R.u64 (xu l no) := rfl
 rw [hS0, hS1, hN, hRR, hV]
 have hbX : byB (xu l no) = true := by
  unfold xu
  cases avl l no
  ·exact aau.2 fun b hb => aau.1 h1 b (List.mem_of_mem_take hb)
  ·rfl
 have hlen : (xu l no).length ≤ 8 := by
  unfold xu
  cases avl l no
  ·rw [cond_false, List.length_take]; omega
  ·exact Nat.zero_le _
 generalize xu l no = X at *
 refine ziT (by simp only [Bz, Sx.af.n]; exact ⟨h0', by omega⟩) ⟨⟨0, Nat.zero_le _, ⟨?_, rfl, trivial⟩, rfl, rfl, rfl, rfl, trivial⟩, fun x hx => ?_⟩
 ·subst hr; rfl
 have hn : (iOf x).toNat = x := by simp only [zUn, ztN]
 rw [hn]
 refine ae (fun d => ?_) (fun d => ?_)
 ·simp only [Bz, Sx.af.n, zUn] at d
  have hx' : x < X.length := by omega
  have hb : x.blt X.length = true := by rw [Nat.blt_eq]; exact hx'
  have w1 : i64.wrap (dh (iOf x) 1) = iOf (x + 1) := by simp only [zUn]; rw [IntKind.wrap_i64]; omega
  have nx := a7l hr hbX hx' (by omega)
  have hd := avm hbX hx'
  rw [hb, w1]
  refine ziT (by simp only [Bz, Sx.af.n, zUn]; exact ⟨by omega, trivial⟩) (ziT rfl ⟨x + 1, hx', by simp only [zUn]; omega, ⟨congrArg _ ?_, rfl, trivial⟩, rfl, rfl, rfl, rfl, trivial⟩)
  rw [nx.1]
  simp only [zUn]
  rw [IntKind.wrap_u64 (256 * _), IntKind.wrap_u64 (X.getD x 0), IntKind.wrap_u64]
  omega
 ·simp only [Bz, Sx.af.n, zUn] at d
  obtain rfl : x = X.length := by omega
  exact ⟨congrArg _ (by unfold ab4; rw [List.take_length]), trivial, rfl, rfl, trivial⟩
theorem bgb (I : Sx.Interp) (O : OO) (hO : O = oo) (R : OB) (hR : R = bO) : ag I Tryz.prog 53 (au [.obj 84 [.ro .u8, .v]] true (auo O R)) := by
 refine o8 (asr I O hO R hR) (by kernel_rfl) (fun ds => match ds with | [.node [.ints l, .v (.bool no)]] => [⟨Nat, [0, 1, 3], [], fun B k => [(4, .v (.int .u64 (ab4 R (xu l no) k))), (5, .v (.int .i64 (k : Nat)))], fun B k => [], fun k => k ≤ (xu l no).length, fun k => (xu l no).length - k, 0⟩] | _ => []) Tryz.func53 (by kernel_rfl) (by kernel_rfl) rfl Tryz.ntmps53 (by decide) ?_ ?_
 ·intro ds p bs F h
  unfold auo at h
  split at h
  ·rename_i l no
   simp only [zsI, zpI] at h
   obtain ⟨_, _, rfl⟩ := h
   kernel_rfl
  ·cases h
 ·intro ds bs F hl h
  unfold auo at h
  split at h
  ·rename_i l no
   simp only [zsI, zpI, zaT] at h
   obtain ⟨⟨h0, h1⟩, _, rfl⟩ := h
   exact Eq.mpr (by kernel_rfl) (bih O R l no (dn O hO) hR (by first | exact h0 | (simp only [zaT]; exact h0)) (by first | exact h1 | (simp only [zaT]; exact h1)))
  ·cases h
def bn7 (O : OO) (R : OB) (f : FuncId) : Option Sx.Spec := match f with
 | 66 => some (au [.ro .u8, .v] false (amh O R))
 | 53 => some (au [.obj 84 [.ro .u8, .v]] true (auo O R))
 | f => bnt O R f
theorem aup (I : Sx.Interp) (O : OO) (hO : O = oo) (R : OB) (hR : R = bO) : ∀ f s, bn7 O R f = some s → ag I Tryz.prog f s := by
 intro f s h
 unfold bn7 at h
 split at h
 · cases h; exact bbj I O hO R hR
 · cases h; exact bgb I O hO R hR
 ·exact asr I O hO R hR _ s h
end Go.Proofs.YtgekiddgdjeaiaaGreat

namespace Go.Proofs.YtgekiddgdjeaiaaGreat
open Go.RowKit Go.Lib Ckp Cfd Cpd Sx
open IntKind (i64 u64 u8 i32 u32)
set_option linter.unusedVariables false
set_option linter.unusedSimpArgs false
set_option maxRecDepth 1000000
set_option maxHeartbeats 4000000

theorem abz {lo hi : Int} {l : List Int} : uh lo hi l = true ↔ ∀ n ∈ l, lo ≤ n ∧ n ≤ hi := by
 unfold uh
 rw [List.all_eq_true]
 refine forall_congr' fun n => forall_congr' fun _ => ?_
 unfold ad4
 cases h : iLt n lo
 ·cases h2 : iLt hi n
  ·simp only [Bz, Sx.af.n] at h h2
   exact ⟨fun _ => (by omega), fun _ => rfl⟩
  ·simp only [Bz, Sx.af.n] at h h2
   exact ⟨fun c => (by cases c), fun _ => (by omega)⟩
 ·simp only [Bz, Sx.af.n] at h
  exact ⟨fun c => (by cases c), fun _ => (by omega)⟩
theorem aeu {R : OB} (hr : R = bO) {b : List Int} (h : byB b = true) : byB (R.nR b) = true := by
 subst hr
 show byB (bif (o5 b 10 0 0).1 then b.drop (o5 b 10 0 0).2.2 else []) = true
 cases (o5 b 10 0 0).1
 ·rfl
 ·exact aau.2 fun x hx => aau.1 h x (List.mem_of_mem_drop hx)
theorem bht {l : List Int} {no : Bool} (h : byB l = true) : byB (aec l no) = true := by
 unfold aec
 cases avl l no
 ·exact aau.2 fun x hx => aau.1 h x (List.mem_of_mem_drop hx)
 ·rfl
theorem bat {R : OB} (hr : R = bO) (n : Int) : (R.row n).length ≤ 20 := by
 have h := aa2 hr [n]
 have e : qj R [n] = R.row n := by unfold qj; rw [List.flatMap_cons, List.flatMap_nil, List.append_nil]
 rw [e] at h
 simp only [List.length_cons, List.length_nil] at h
 omega
def ag5 (O : OO) (R : OB) (ds : List Dt) : zG := match ds with
 | [.node [.v (.int .i64 no), .v (.int .i64 h0), .v (.int .i64 h1), .structs l, .v (.int .i64 rt)]] => some ((Nat.ble l.length 1000) && (pqB l) && (uh (-9223372036854775808) 9223372036854775807 [no, h0, h1, rt]) && (l.all fun x => uh (-9223372036854775808) 9223372036854775807 [x.getD 0 0, x.getD 1 0, x.getD 2 0, x.getD 4 0]), [], fun _ => ⟨[.row 1], [(1, .ro (.ints .u8 (stB R no h0 h1 rt l)))]⟩)
 | _ => none
theorem a6v (O : OO) (R : OB) (no h0 h1 rt : Int) (l : List (List Int)) (F : FO O) (hr : R = bO) (g0 : (Nat.ble l.length 1000) = true) (g1 : (pqB l) = true) (g2 : (uh (-9223372036854775808) 9223372036854775807 [no, h0, h1, rt]) = true) (g3 : (l.all fun x => uh (-9223372036854775808) 9223372036854775807 [x.getD 0 0, x.getD 1 0, x.getD 2 0, x.getD 4 0]) = true) :
 let T1 := qj R [no, h0, h1, rt, iOf l.length]; let T2 := bif iLt rt 0 then bif iLt h1 0 then bif iLt h0 0 then bif iLt no 0 then [] else app [] (R.row no) else app (bif iLt no 0 then [] else app [] (R.row no)) (R.row h0) else app (bif iLt h0 0 then bif iLt no 0 then [] else app [] (R.row no) else app (bif iLt no 0 then [] else app [] (R.row no)) (R.row h0)) (R.row h1) else app (bif iLt h1 0 then bif iLt h0 0 then bif iLt no 0 then [] else app [] (R.row no) else app (bif iLt no 0 then [] else app [] (R.row no)) (R.row h0) else app (bif iLt h0 0 then bif iLt no 0 then [] else app [] (R.row no) else app (bif iLt no 0 then [] else app [] (R.row no)) (R.row h0)) (R.row h1)) (R.row rt);
  let T3 := True ∧ EqI [] (stB R no h0 h1 rt l) ∧ True; let T4 := bif iLt h0 0 then bif iLt no 0 then [] else app [] (R.row no) else app (bif iLt no 0 then [] else app [] (R.row no)) (R.row h0);
  let T5 := ay (ay (ay (ay 0 1) 1) 1) 1; let T6 := vI no = vI no ∧ vI h0 = vI h0 ∧ vI h1 = vI h1 ∧ vI rt = vI rt; let T7 := bif iLt no 0 then [] else app [] (R.row no); If
  (iLt no 0) T3 (If (iLt h0 0) T3 (If (iLt h1 0) T3 (If (iLt rt 0) T3 (If (Nat.ble 0 1000000 && iLe no 9223372036854775807) (If (T7.length.ble 1000000 && iLe h0 9223372036854775807)
  (If (T4.length.ble 1000000 && iLe h1 9223372036854775807) (If ((bif iLt h1 0 then bif iLt h0 0 then bif iLt no 0 then [] else app [] (R.row no) else app T7 (R.row h0) else app T4
  (R.row h1)).length.ble 1000000 && iLe rt 9223372036854775807) (If (T2.length.ble 1000000 && iLe (iOf (cS l).n) 9223372036854775807) ((∃ (x : Nat), (x ≤ l.length ∧ abg (List.take x
  l) = true) ∧ (vI 0 = vI (iOf x) ∧ True) ∧ EqI (app T2 (R.row (iOf l.length))) (app T1 (lq R (List.take x l))) ∧ T6 ∧ cS l = cS l ∧ True) ∧ ∀ (x : Nat), let T8 := bif iLt ((l.getD (iOf x).toNat []).getD (ay 0 1) 0) 0 then bif iLt ((l.getD (iOf x).toNat []).getD 0 0) 0 then app T1 (lq R (List.take x l)) else app (app T1 (lq R (List.take x l))) (R.row ((l.getD (iOf x).toNat []).getD 0 0)) else app (bif iLt ((l.getD (iOf x).toNat []).getD 0 0) 0 then app T1 (lq R (List.take x l)) else app (app T1 (lq R (List.take x l))) (R.row ((l.getD (iOf x).toNat []).getD 0 0))) (R.row ((l.getD (iOf x).toNat []).getD 1 0));
  let T9 := bif iLt ((l.getD (iOf x).toNat []).getD T5 0) 0 then bif iLt ((l.getD (iOf x).toNat []).getD (ay (ay 0 1) 1) 0) 0 then bif iLt ((l.getD (iOf x).toNat []).getD (ay 0 1) 0) 0 then bif iLt ((l.getD (iOf x).toNat []).getD 0 0) 0 then app T1 (lq R (List.take x l)) else app (app T1 (lq R (List.take x l))) (R.row ((l.getD (iOf x).toNat []).getD 0 0)) else app (bif iLt ((l.getD (iOf x).toNat []).getD 0 0) 0 then app T1 (lq R (List.take x l)) else app (app T1 (lq R (List.take x l))) (R.row ((l.getD (iOf x).toNat []).getD 0 0))) (R.row ((l.getD (iOf x).toNat []).getD 1 0)) else app T8 (R.row ((l.getD (iOf x).toNat []).getD 2 0)) else app (bif iLt ((l.getD (iOf x).toNat []).getD (ay (ay 0 1) 1) 0) 0 then bif iLt ((l.getD (iOf x).toNat []).getD (ay 0 1) 0) 0 then bif iLt ((l.getD (iOf x).toNat []).getD 0 0) 0 then app T1 (lq R (List.take x l)) else app (app T1 (lq R (List.take x l))) (R.row ((l.getD (iOf x).toNat []).getD 0 0)) else app (bif iLt ((l.getD (iOf x).toNat []).getD 0 0) 0 then app T1 (lq R (List.take x l)) else app (app T1 (lq R (List.take x l))) (R.row ((l.getD (iOf x).toNat []).getD 0 0))) (R.row ((l.getD (iOf x).toNat []).getD 1 0)) else app T8 (R.row ((l.getD (iOf x).toNat []).getD 2 0))) (R.row ((l.getD (iOf x).toNat []).getD 4 0));
  let T10 := bif iLt ((l.getD (iOf x).toNat []).getD 0 0) 0 then app T1 (lq R (List.take x l)) else app (app T1 (lq R (List.take x l))) (R.row ((l.getD (iOf x).toNat []).getD 0 0));
  x ≤ l.length ∧ abg (List.take x l) = true → If (iLt (iOf x) (iOf (cS l).n)) (If (iLe 0 (iOf x) && (iOf x).toNat.blt l.length) (If (true && Nat.beq 5 5 && (iOf x).toNat.blt
  l.length) (If (iLt ((l.getD (iOf x).toNat []).getD 0 0) 0) T3 (If (iLt ((l.getD (iOf x).toNat []).getD (ay 0 1) 0) 0) T3 (If (iLt ((l.getD (iOf x).toNat []).getD (ay (ay 0 1)
  1) 0) 0) T3 (If (iLt ((l.getD (iOf x).toNat []).getD T5 0) 0) T3 (If ((app T1 (lq R (List.take x l))).length.ble 1000000 && iLe ((l.getD (iOf x).toNat []).getD 0 0)
  9223372036854775807) (If (T10.length.ble 1000000 && iLe ((l.getD (iOf x).toNat []).getD (ay 0 1) 0) 9223372036854775807) (If (T8.length.ble 1000000 && iLe ((l.getD (iOf x).toNat
  []).getD (ay (ay 0 1) 1) 0) 9223372036854775807) (If ((bif iLt ((l.getD (iOf x).toNat []).getD (ay (ay 0 1) 1) 0) 0 then bif iLt ((l.getD (iOf x).toNat []).getD (ay 0 1)
  0) 0 then bif iLt ((l.getD (iOf x).toNat []).getD 0 0) 0 then app T1 (lq R (List.take x l)) else app (app T1 (lq R (List.take x l))) (R.row ((l.getD (iOf x).toNat []).getD 0 0))
  else app T10 (R.row ((l.getD (iOf x).toNat []).getD 1 0)) else app T8 (R.row ((l.getD (iOf x).toNat []).getD 2 0))).length.ble 1000000 && iLe ((l.getD (iOf x).toNat []).getD T5 0)
  9223372036854775807) (If (T9.length.ble 1000000 && inU ((l.getD (iOf x).toNat []).getD 3 0) 18446744073709551616) (∃ (x' : Nat), (x' ≤ l.length ∧ abg (List.take x' l) = true) ∧
  (iy l.length x').succ ≤ iy l.length x ∧ (vI (i64.wrap (dh (iOf x) 1)) = vI (iOf x') ∧ True) ∧ EqI (app T9 (aln ((l.getD (iOf x).toNat []).getD 3 0))) (app T1 (lq R
  (List.take x' l))) ∧ T6 ∧ cS l = cS l ∧ True) False) False) False) False) False))))) False) False) (True ∧ EqI (app T1 (lq R (List.take x l))) (stB R no h0 h1 rt l) ∧ True))
  False) False) False) False) False)))) := by
 conv => zeta
 have g0' := zbL g0
 have R0 := bat hr
 have neg : ∀ k ∈ [no, h0, h1, rt], iLt k 0 = true → [] = stB R no h0 h1 rt l := fun k hk e => by
  unfold stB
  cases h : uh 0 9223372036854775807 [no, h0, h1, rt, (l.length : Int)]
  ·rfl
  ·have := abz.1 h k (by simp only [List.mem_cons, List.not_mem_nil, or_false] at hk ⊢; omega)
   simp only [Bz, Sx.af.n] at e; omega
 refine ae (fun e => ⟨trivial, neg no (by simp) e, trivial⟩) (fun n0 => ae (fun e => ⟨trivial, neg h0 (by simp) e, trivial⟩) (fun n1 => ae (fun e => ⟨trivial, neg h1 (by simp) e, trivial⟩) (fun n2 => ae (fun e => ⟨trivial, neg rt (by simp) e, trivial⟩) (fun n3 => ?_))))
 simp only [n0, n1, n2, n3, cond_false, ay, Nat.zero_add, Nat.reduceAdd]
 have gg := abz.1 g2
 have b0 := gg no (by simp)
 have b1 := gg h0 (by simp)
 have b2 := gg h1 (by simp)
 have b3 := gg rt (by simp)
 simp only [Bz, Sx.af.n] at n0 n1 n2 n3
 have d : uh 0 9223372036854775807 [no, h0, h1, rt, (l.length : Int)] = true := abz.2 fun n hn => by
  simp only [List.mem_cons, List.not_mem_nil, or_false] at hn
  rcases hn with rfl | rfl | rfl | rfl | rfl <;> omega
 have hst : stB R no h0 h1 rt l = bif abg l then qj R [no, h0, h1, rt, (l.length : Int)] ++ lq R l else [] := by
  unfold stB
  rw [d]; rfl
 have hh := aa2 hr [no, h0, h1, rt, iOf l.length]
 simp only [List.length_cons, List.length_nil] at hh
 have hHe : app (app (app (app (app [] (R.row no)) (R.row h0)) (R.row h1)) (R.row rt)) (R.row (iOf l.length)) = qj R [no, h0, h1, rt, iOf l.length] := by
  unfold qj
  simp only [Sx.app, List.flatMap_cons, List.flatMap_nil, List.append_nil, List.nil_append, List.append_assoc]
 obtain ⟨H, hH⟩ : ∃ H, qj R [no, h0, h1, rt, iOf l.length] = H := ⟨_, rfl⟩
 have hst : stB R no h0 h1 rt l = bif abg l then H ++ lq R l else [] := by rw [hst, ← hH]; rfl
 rw [hH] at hh hHe
 rw [hH, hHe]
 have r0 := R0 no
 have r1 := R0 h0
 have r2 := R0 h1
 have r3 := R0 rt
 refine ziT (by simp only [Bz, Sx.af.n, Nat.ble_eq]; exact ⟨by decide, by omega⟩) (ziT (by simp only [Bz, Sx.af.n, Sx.app, Nat.ble_eq, zlA, List.length_nil]; omega) (ziT (by simp only [Bz, Sx.af.n, Sx.app, Nat.ble_eq, zlA, List.length_nil]; omega) (ziT (by simp only [Bz, Sx.af.n, Sx.app, Nat.ble_eq, zlA, List.length_nil]; omega) (ziT (by simp only [Bz, Sx.af.n, Sx.app, Sx.iOf, Nat.ble_eq, zlA, List.length_nil]; omega) ?_))))
 refine ⟨⟨0, ⟨Nat.zero_le _, rfl⟩, ⟨rfl, trivial⟩, by simp [EqI, lq, Sx.app], (by repeat' (first | exact True.intro | exact rfl | refine ⟨?_, ?_⟩))⟩, fun x ⟨x1, x2⟩ => ?_⟩
 have hn : (iOf x).toNat = x := by simp only [zUn, ztN]
 rw [hn]
 refine ae (fun e => ?_) (fun e => ?_)
 ·simp only [Bz, Sx.af.n, zUn] at e
  have hx' : x < l.length := by omega
  have hb : x.blt l.length = true := by rw [Nat.blt_eq]; exact hx'
  have w1 : i64.wrap (dh (iOf x) 1) = iOf (x + 1) := by simp only [zUn]; rw [IntKind.wrap_i64]; omega
  have gy : uh (-9223372036854775808) 9223372036854775807 [(l.getD x []).getD 0 0, (l.getD x []).getD 1 0, (l.getD x []).getD 2 0, (l.getD x []).getD 4 0] = true := by
   refine List.all_eq_true.1 g3 (l.getD x []) ?_
   rw [List.getD_eq_getElem?_getD, List.getElem?_eq_getElem hx']
   exact List.getElem_mem hx'
  obtain ⟨y, hy⟩ : ∃ y, l.getD x [] = y := ⟨_, rfl⟩
  have hq : inU (y.getD 3 0) 18446744073709551616 = true := by rw [← hy]; exact bcz g1 hx'
  have hcl := ajd hr (l.take x)
  rw [List.length_take] at hcl
  have hsn := arj R hx'
  have hok := aoc hx'
  rw [hy] at hsn hok gy
  have hcy : apf R y = qj R [y.getD 0 0, y.getD 1 0, y.getD 2 0, y.getD 4 0] ++ aln (y.getD 3 0) := rfl
  have hky : ap9 y = uh 0 9223372036854775807 [y.getD 0 0, y.getD 1 0, y.getD 2 0, y.getD 4 0] := rfl
  have negc : ∀ k ∈ [y.getD 0 0, y.getD 1 0, y.getD 2 0, y.getD 4 0], iLt k 0 = true → True ∧ EqI [] (stB R no h0 h1 rt l) ∧ True := fun k hk e => by
   have f : ap9 y = false := by
    rw [hky]
    cases h : uh 0 9223372036854775807 [y.getD 0 0, y.getD 1 0, y.getD 2 0, y.getD 4 0]
    ·rfl
    ·have := abz.1 h k hk
     simp only [Bz, Sx.af.n] at e; omega
   refine ⟨trivial, ?_, trivial⟩
   rw [hst, arq hx' (hy ▸ f)]; rfl
  rw [hb, w1, hy]
  refine ziT (by simp only [Bz, Sx.af.n, zUn]; exact ⟨by omega, trivial⟩) (ziT rfl (ae (fun f => negc _ (by simp) f) (fun m0 => ae (fun f => negc _ (by simp) f) (fun m1 => ae (fun f => negc _ (by simp) f) (fun m2 => ae (fun f => negc _ (by simp) f) (fun m3 => ?_))))))
  simp only [m0, m1, m2, m3, cond_false]
  simp only [Bz, Sx.af.n] at m0 m1 m2 m3
  have gz := abz.1 gy
  have c0 := gz _ (show y.getD 0 0 ∈ _ by simp)
  have c1 := gz _ (show y.getD 1 0 ∈ _ by simp)
  have c2 := gz _ (show y.getD 2 0 ∈ _ by simp)
  have c3 := gz _ (show y.getD 4 0 ∈ _ by simp)
  have s0 := R0 (y.getD 0 0)
  have s1 := R0 (y.getD 1 0)
  have s2 := R0 (y.getD 2 0)
  have s3 := R0 (y.getD 4 0)
  have f : ap9 y = true := by
   rw [hky]
   refine abz.2 fun n hn => ?_
   simp only [List.mem_cons, List.not_mem_nil, or_false] at hn
   rcases hn with rfl | rfl | rfl | rfl <;> omega
  refine ziT (by simp only [Bz, Sx.af.n, Sx.app, Nat.ble_eq, zlA]; omega) (ziT (by simp only [Bz, Sx.af.n, Sx.app, Nat.ble_eq, zlA]; omega) (ziT (by simp only [Bz, Sx.af.n, Sx.app, Nat.ble_eq, zlA]; omega) (ziT (by simp only [Bz, Sx.af.n, Sx.app, Nat.ble_eq, zlA]; omega) (ziT (by rw [hq, Bool.and_true]; simp only [Bz, Sx.af.n, Sx.app, Nat.ble_eq, zlA]; omega) ?_))))
  refine ⟨x + 1, ⟨hx', by rw [hok, x2, f]; rfl⟩, by simp only [zUn]; omega, ⟨rfl, trivial⟩, ?_, (by repeat' (first | exact True.intro | exact rfl | refine ⟨?_, ?_⟩))⟩
  show app (app (app (app (app (app H (lq R (l.take x))) _) _) _) _) _ = app H (lq R (l.take (x + 1)))
  rw [hsn, hcy]
  unfold qj
  simp only [Sx.app, List.flatMap_cons, List.flatMap_nil, List.append_nil, List.append_assoc]
 ·simp only [Bz, Sx.af.n, zUn] at e
  obtain rfl : x = l.length := by omega
  rw [List.take_length] at x2 ⊢
  exact ⟨trivial, by rw [hst, x2]; rfl, trivial⟩
theorem aqy (I : Sx.Interp) (O : OO) (hO : O = oo) (R : OB) (hR : R = bO) : ag I Tryz.prog 29 (au [.agg [.v, .v, .v, .roS [.i64, .i64, .i64, .u64, .i64], .v]] true (ag5 O R)) := by
 refine zn (aup I O hO R hR) (by kernel_rfl) (fun ds => match ds with | [.node [.v (.int .i64 no), .v (.int .i64 h0), .v (.int .i64 h1), .structs l, .v (.int .i64 rt)]] => [⟨Nat, [1, 2], [(3, 5, .ints .u8 [])], fun B j => [(3, .row B), (4, .v (.int .i64 (j : Nat)))], fun B j => [(B, .own 5 (.ints .u8 (qj R [no, h0, h1, rt, (l.length : Int)] ++ lq R (l.take j))))], fun j => j ≤ l.length ∧ abg (l.take j) = true, fun j => l.length - j, 0⟩] | _ => []) (fun ds => match ds with | [.node [.v (.int .i64 no), .v (.int .i64 h0), .v (.int .i64 h1), .structs l, .v (.int .i64 rt)]] => [(2, 5, .ints .u8 [])] | _ => []) Tryz.func29 (by kernel_rfl) (by kernel_rfl) rfl Tryz.ntmps29 (by decide) ?_ ?_
 ·intro ds p bs F h
  unfold ag5 at h
  split at h
  ·rename_i no h0 h1 l rt
   simp only [zsI, zpI] at h
   obtain ⟨_, _, rfl⟩ := h
   kernel_rfl
  ·cases h
 ·intro ds bs F hl h
  unfold ag5 at h
  split at h
  ·rename_i no h0 h1 l rt
   simp only [zsI, zpI, zaT] at h
   obtain ⟨⟨⟨⟨g0, g1⟩, g2⟩, g3⟩, _, rfl⟩ := h
   exact Eq.mpr (by kernel_rfl) (a6v O R no h0 h1 rt l (dn O hO) hR (by first | exact g0 | (simp only [zaT]; exact g0)) (by first | exact g1 | (simp only [zaT]; exact g1)) (by first | exact g2 | (simp only [zaT]; exact g2)) (by first | exact g3 | (simp only [zaT]; exact g3)))
  ·cases h
def ai6 (O : OO) (R : OB) (ds : List Dt) : zG := match ds with
 | [.ints b] => some ((Nat.ble b.length 1000000) && (byB b), [], fun _ => ⟨[.agg [.v (.int .i64 (aia R b)), .v (.int .i64 (ah7 R b)), .v (.int .i64 (ah9 R b)), .row 1, .v (.int .i64 (ah2 R b))], .v (.bool (xn R b))], [(1, .own 41 (.structs [.i64, .i64, .i64, .u64, .i64] (snC R b)))]⟩)
 | _ => none
theorem a8l (O : OO) (R : OB) (b : List Int) (F : FO O) (hr : R = bO) (h0 : (Nat.ble b.length 1000000) = true) (h1 : (byB b) = true) :
 let T1 := vI 0 = vI (aia R b) ∧ vI 0 = vI (ah7 R b) ∧ vI 0 = vI (ah9 R b) ∧ vI 0 = vI (ah2 R b); let T2 := vI (R.nV b) = vI (R.nV b) ∧ vI (R.nV (R.nR b)) = vI (R.nV (R.nR b)) ∧ vI (R.nV (R.nR (R.nR b))) = vI (R.nV (R.nR (R.nR b))) ∧ vI (R.nV (R.nR (R.nR (R.nR b)))) = vI (R.nV (R.nR (R.nR (R.nR b))));
  let T3 := vI (R.nV b) = vI (aia R b) ∧ vI (R.nV (R.nR b)) = vI (ah7 R b) ∧ vI (R.nV (R.nR (R.nR b))) = vI (ah9 R b) ∧ vI (R.nV (R.nR (R.nR (R.nR b)))) = vI (ah2 R b); let T4 := R.nV (R.nR (R.nR (R.nR (R.nR b))));
  If (b.length.ble 1000000) (If (b.length.ble 1000000 && byB b) (If ((R.nR b).length.ble 1000000 && byB (R.nR b)) (If ((R.nR (R.nR b)).length.ble 1000000 && byB (R.nR (R.nR b))) (If
  ((R.nR (R.nR (R.nR b))).length.ble 1000000 && byB (R.nR (R.nR (R.nR b)))) (If ((R.nR (R.nR (R.nR (R.nR b)))).length.ble 1000000 && byB (R.nR (R.nR (R.nR (R.nR b))))) ((∃ (x : Int ×
  List Int × Bool × List (List Int)), (sdF R (di (hdN R b) x.1).toNat x.2.1 x.snd.2.1 x.snd.2.2 = snE R b ∧ (iLe 0 x.1 && iLe x.1 9223372036854775807) = true ∧ byB x.2.1 = true ∧
  ay x.snd.2.2.length x.2.1.length ≤ ay b.length (bif x.snd.2.1 then 1 else 0)) ∧ (vI 0 = vI x.1 ∧ vB false = vB false ∧ vI T4 = vI T4 ∧ True) ∧ vB (bif R.nOk (R.nR (R.nR (R.nR
  (R.nR b)))) then bif R.nOk (R.nR (R.nR (R.nR b))) then bif R.nOk (R.nR (R.nR b)) then bif R.nOk (R.nR b) then bif R.nOk b then false else true else true else true else true else
  true) = vB x.snd.2.1 ∧ EqI (R.nR (R.nR (R.nR (R.nR (R.nR b))))) x.2.1 ∧ T2 ∧ cS [] = cS x.snd.2.2 ∧ EqI (R.nR (R.nR (R.nR (R.nR b)))) (R.nR (R.nR (R.nR (R.nR b)))) ∧ EqI (R.nR (R.nR
  (R.nR b))) (R.nR (R.nR (R.nR b))) ∧ EqI (R.nR (R.nR b)) (R.nR (R.nR b)) ∧ EqI (R.nR b) (R.nR b) ∧ EqI b b ∧ Array.mk [vI 0, vI 0, vI 0, Value.slice none 0 0, vI 0] = Array.mk [vI 0,
  vI 0, vI 0, Value.slice none 0 0, vI 0] ∧ True) ∧ ∀ (x : Int × List Int × Bool × List (List Int)), sdF R (di (hdN R b) x.1).toNat x.2.1 x.snd.2.1 x.snd.2.2 = snE R b ∧ (iLe 0 x.1
  && iLe x.1 9223372036854775807) = true ∧ byB x.2.1 = true ∧ ay x.snd.2.2.length x.2.1.length ≤ ay b.length (bif x.snd.2.1 then 1 else 0) → If (iLt x.1 T4) (If (!x.snd.2.1) (If
  (x.2.1.length.ble 1000000 && byB x.2.1) (If ((R.nR x.2.1).length.ble 1000000 && byB (R.nR x.2.1)) (If ((R.nR (R.nR x.2.1)).length.ble 1000000 && byB (R.nR (R.nR x.2.1))) (If ((R.nR
  (R.nR (R.nR x.2.1))).length.ble 1000000 && byB (R.nR (R.nR (R.nR x.2.1)))) (If ((R.nR (R.nR (R.nR (R.nR x.2.1)))).length.ble 1000000 && byB (R.nR (R.nR (R.nR (R.nR x.2.1))))) (If
  ((jd (ay x.snd.2.2.length 1) 40).ble 140737488355328 && (ay x.snd.2.2.length 1).ble 9223372036854775807) (∃ (x' : Int × List Int × Bool × List (List Int)), (sdF R (di (hdN R
  b) x'.1).toNat x'.2.1 x'.snd.2.1 x'.snd.2.2 = snE R b ∧ (iLe 0 x'.1 && iLe x'.1 9223372036854775807) = true ∧ byB x'.2.1 = true ∧ ay x'.snd.2.2.length x'.2.1.length ≤ ay
  b.length (bif x'.snd.2.1 then 1 else 0)) ∧ (di (hdN R b) x'.1).toNat.succ ≤ (di (hdN R b) x.1).toNat ∧ (vI (i64.wrap (dh x.1 1)) = vI x'.1 ∧ vB false = vB false ∧ vI
  T4 = vI T4 ∧ True) ∧ vB (ae9 (R.nR (R.nR (R.nR (R.nR x.2.1)))) (bif R.nOk (R.nR (R.nR (R.nR x.2.1))) then bif R.nOk (R.nR (R.nR x.2.1)) then bif R.nOk (R.nR x.2.1) then bif R.nOk
  x.2.1 then x.snd.2.1 else true else true else true else true)) = vB x'.snd.2.1 ∧ EqI (aec (R.nR (R.nR (R.nR (R.nR x.2.1)))) (bif R.nOk (R.nR (R.nR (R.nR x.2.1))) then bif R.nOk
  (R.nR (R.nR x.2.1)) then bif R.nOk (R.nR x.2.1) then bif R.nOk x.2.1 then x.snd.2.1 else true else true else true else true)) x'.2.1 ∧ T2 ∧ cS (app x.snd.2.2 [[R.nV x.2.1, R.nV
  (R.nR x.2.1), R.nV (R.nR (R.nR x.2.1)), apo R (R.nR (R.nR (R.nR (R.nR x.2.1)))) (bif R.nOk (R.nR (R.nR (R.nR x.2.1))) then bif R.nOk (R.nR (R.nR x.2.1)) then bif R.nOk (R.nR x.2.1)
  then bif R.nOk x.2.1 then x.snd.2.1 else true else true else true else true), R.nV (R.nR (R.nR (R.nR x.2.1)))]]) = cS x'.snd.2.2 ∧ EqI (R.nR (R.nR (R.nR (R.nR b)))) (R.nR (R.nR
  (R.nR (R.nR b)))) ∧ EqI (R.nR (R.nR (R.nR b))) (R.nR (R.nR (R.nR b))) ∧ EqI (R.nR (R.nR b)) (R.nR (R.nR b)) ∧ EqI (R.nR b) (R.nR b) ∧ EqI b b ∧ Array.mk [vI 0, vI 0, vI 0,
  Value.slice none 0 0, vI 0] = Array.mk [vI 0, vI 0, vI 0, Value.slice none 0 0, vI 0] ∧ True) False) False) False) False) False) False) (If x.snd.2.1 ((T1 ∧ vB false = vB (xn R
  b)) ∧ True ∧ cS [] = cS (snC R b) ∧ True) (If (iLt 0 (iOf x.2.1.length)) ((T1 ∧ vB false = vB (xn R b)) ∧ True ∧ cS [] = cS (snC R b) ∧ True) ((T3 ∧ vB true = vB (xn R b)) ∧
  True ∧ cS x.snd.2.2 = cS (snC R b) ∧ True)))) (If x.snd.2.1 ((T1 ∧ vB false = vB (xn R b)) ∧ True ∧ cS [] = cS (snC R b) ∧ True) (If (iLt 0 (iOf x.2.1.length)) ((T1 ∧ vB false =
  vB (xn R b)) ∧ True ∧ cS [] = cS (snC R b) ∧ True) ((T3 ∧ vB true = vB (xn R b)) ∧ True ∧ cS x.snd.2.2 = cS (snC R b) ∧ True)))) False) False) False) False) False) False := by
 conv => zeta
 have h0' := zbL h0
 have k0 := nRl hr b
 have k1 := nRl hr (R.nR b)
 have k2 := nRl hr (R.nR (R.nR b))
 have k3 := nRl hr (R.nR (R.nR (R.nR b)))
 have k4 := nRl hr (R.nR (R.nR (R.nR (R.nR b))))
 have y0 := aeu hr h1
 have y1 := aeu hr y0
 have y2 := aeu hr y1
 have y3 := aeu hr y2
 have y4 := aeu hr y3
 have eO : (bif R.nOk (R.nR (R.nR (R.nR (R.nR b)))) then bif R.nOk (R.nR (R.nR (R.nR b))) then bif R.nOk (R.nR (R.nR b)) then bif R.nOk (R.nR b) then bif R.nOk b then false else true else true else true else true else true) = hdO R b := rfl
 have eL : R.nR (R.nR (R.nR (R.nR (R.nR b)))) = hdL R b := rfl
 have eN : R.nV (R.nR (R.nR (R.nR (R.nR b)))) = hdN R b := rfl
 obtain ⟨n1, n2⟩ := nVr hr (R.nR (R.nR (R.nR (R.nR b))))
 rw [eN] at n1 n2
 rw [eL] at k4 y4
 rw [eO, eL, eN]
 have hE : sdF R (hdN R b).toNat (hdL R b) (hdO R b) [] = snE R b := rfl
 refine ziT h0 (ziT (by rw [h1, Bool.and_true]; exact h0) (ziT (by rw [y0, Bool.and_true, Nat.ble_eq]; omega) (ziT (by rw [y1, Bool.and_true, Nat.ble_eq]; omega) (ziT (by rw [y2, Bool.and_true, Nat.ble_eq]; omega) (ziT (by rw [y3, Bool.and_true, Nat.ble_eq]; omega) ⟨⟨(0, hdL R b, hdO R b, []), ⟨?_, rfl, y4, ?_⟩, ⟨rfl, rfl, rfl, trivial⟩, rfl, rfl, (by repeat' (first | exact True.intro | exact rfl | refine ⟨?_, ?_⟩))⟩, ?_⟩)))))
 ·show sdF R (hdN R b - 0).toNat _ _ _ = _
  rw [Int.sub_zero]; exact hE
 ·show 0 + (hdL R b).length ≤ _
  simp only [zUn]; omega
 rintro ⟨i, l, no, L⟩ ⟨c1, c2, c3, c4⟩
 replace c1 : sdF R (hdN R b - i).toNat l no L = snE R b := c1
 replace c2 : (iLe 0 i && iLe i 9223372036854775807) = true := c2
 simp only [Bz, Sx.af.n] at c2
 replace c3 : byB l = true := c3
 replace c4 : L.length + l.length ≤ b.length + (bif no then 1 else 0) := c4
 dsimp only
 have j0 := nRl hr l
 have j1 := nRl hr (R.nR l)
 have j2 := nRl hr (R.nR (R.nR l))
 have j3 := nRl hr (R.nR (R.nR (R.nR l)))
 have z0 := aeu hr c3
 have z1 := aeu hr z0
 have z2 := aeu hr z1
 have z3 := aeu hr z2
 have fO : (bif R.nOk (R.nR (R.nR (R.nR l))) then bif R.nOk (R.nR (R.nR l)) then bif R.nOk (R.nR l) then bif R.nOk l then no else true else true else true else true) = cdO R l no := rfl
 have fL : R.nR (R.nR (R.nR (R.nR l))) = cdL R l := rfl
 rw [fL] at z3
 have bad : no = true → xn R b = false := fun h => by
  subst h
  have e : snE R b = (l, true, L) := by rw [← c1]; cases (hdN R b - i).toNat <;> rfl
  unfold xn
  rw [e]; rfl
 have ends : no = false → hdN R b ≤ i → snE R b = (l, false, L) := fun h h' => by subst h; rw [← c1, show (hdN R b - i).toNat = 0 by omega]; rfl
 have errs : xn R b = false → (((Value.int i64 0 = Value.int i64 (aia R b) ∧ Value.int i64 0 = Value.int i64 (ah7 R b) ∧ Value.int i64 0 = Value.int i64 (ah9 R b) ∧ Value.int i64 0 = Value.int i64 (ah2 R b)) ∧ Value.bool false = Value.bool (xn R b)) ∧ True ∧ af.structs [i64, i64, i64, u64, i64] [] = af.structs [i64, i64, i64, u64, i64] (snC R b) ∧ True) := fun h => by
  unfold aia ah7 ah9 ah2 snC
  rw [h]; exact (by repeat' (first | exact True.intro | exact rfl | refine ⟨?_, ?_⟩))
 have j4 : (cdL R l).length ≤ l.length := amj hr l
 rw [fO, fL]
 have fin : no = false → hdN R b ≤ i → iLt 0 (iOf l.length) = false → (((Value.int i64 (R.nV b) = Value.int i64 (aia R b) ∧ Value.int i64 (R.nV (R.nR b)) = Value.int i64 (ah7 R b) ∧ Value.int i64 (R.nV (R.nR (R.nR b))) = Value.int i64 (ah9 R b) ∧ Value.int i64 (R.nV (R.nR (R.nR (R.nR b)))) = Value.int i64 (ah2 R b)) ∧ Value.bool true = Value.bool (xn R b)) ∧ True ∧ af.structs [i64, i64, i64, u64, i64] L = af.structs [i64, i64, i64, u64, i64] (snC R b) ∧ True) := fun e hk f => by
  have hk := ends e hk
  simp only [Bz, Sx.af.n, zUn] at f
  have h : xn R b = true := by
   unfold xn
   rw [hk]
   show Nat.beq l.length 0 = true
   rw [Nat.beq_eq]; omega
  unfold aia ah7 ah9 ah2 snC
  rw [h, hk]; exact (by repeat' (first | exact True.intro | exact rfl | refine ⟨?_, ?_⟩))
 have more : no = false → hdN R b ≤ i → iLt 0 (iOf l.length) = true → xn R b = false := fun e hk f => by
  have hk := ends e hk
  simp only [Bz, Sx.af.n, zUn] at f
  unfold xn
  rw [hk]
  show Nat.beq l.length 0 = false
  rw [Bool.eq_false_iff, Ne, Nat.beq_eq]; omega
 refine ae (fun d => ?_) (fun d => ?_)
 ·simp only [Bz, Sx.af.n, zUn] at d
  refine ae (fun e => ?_) (fun e => ?_)
  ·have e : no = false := by simpa using e
   subst e
   have c4 : L.length + l.length ≤ b.length := c4
   have ek : (hdN R b - i).toNat = (hdN R b - (i + 1)).toNat + 1 := by omega
   have u1 := aoj (cdL R l) (cdO R l false)
   have hs := akr hr l
   have w1 : i64.wrap (dh i 1) = i + 1 := by simp only [zUn]; rw [IntKind.wrap_i64]; omega
   rw [w1]
   refine ziT (by rw [c3, Bool.and_true, Nat.ble_eq]; omega) (ziT (by rw [z0, Bool.and_true, Nat.ble_eq]; omega) (ziT (by rw [z1, Bool.and_true, Nat.ble_eq]; omega) (ziT (by rw [z2, Bool.and_true, Nat.ble_eq]; omega) (ziT (by rw [z3, Bool.and_true, Nat.ble_eq]; omega) (ziT (by simp only [zUn, Bz, Sx.af.n]; omega) ⟨(i + 1, aec (cdL R l) (cdO R l false), ae9 (cdL R l) (cdO R l false), L ++ [cdX R l false]), ⟨?_, ?_, ?_, ?_⟩, ?_, ⟨rfl, rfl, rfl, trivial⟩, rfl, rfl, (by repeat' (first | exact True.intro | exact rfl | refine ⟨?_, ?_⟩))⟩)))))
   ·show sdF R (hdN R b - (i + 1)).toNat _ _ _ = snE R b
    rw [← c1, ek]; rfl
   ·show (iLe 0 (i + 1) && iLe (i + 1) 9223372036854775807) = true
    simp only [Bz, Sx.af.n]; omega
   ·exact bht z3
   ·show (L ++ [cdX R l false]).length + (aec (cdL R l) (cdO R l false)).length ≤ b.length + (bif ae9 (cdL R l) (cdO R l false) then 1 else 0)
    rw [zlA, List.length_singleton]
    omega
   ·show ((hdN R b - (i + 1)).toNat).succ ≤ (hdN R b - i).toNat
    omega
  ·have e : no = true := by simpa using e
   subst e
   exact ziT rfl (errs (bad rfl))
 ·simp only [Bz, Sx.af.n, zUn] at d
  refine ae (fun e => errs (bad (by simpa using e))) (fun e => ?_)
  have e : no = false := by simpa using e
  exact ae (fun f => errs (more e (by omega) f)) (fun f => fin e (by omega) f)
theorem axo (I : Sx.Interp) (O : OO) (hO : O = oo) (R : OB) (hR : R = bO) : ag I Tryz.prog 15 (au [.ro .u8] true (ai6 O R)) := by
 refine zn (aup I O hO R hR) (by kernel_rfl) (fun ds => match ds with | [.ints b] => [⟨Int × List Int × Bool × List (List Int), [2, 3, 4, 5, 6], [(100004, 5, .ints .u8 []), (400005, 41, .structs [.i64, .i64, .i64, .u64, .i64] [])], fun B x => [(7, .v (.int .i64 x.1))], fun B x => [(256, .blk 84 [.row B, .v (.bool x.2.2.1)]), (B, .ro (.ints .u8 x.2.1)), (384, .blk 39 [.v (.int .i64 (R.nV b)), .v (.int .i64 (R.nV (R.nR b))), .v (.int .i64 (R.nV (R.nR (R.nR b)))), .row (B + 1), .v (.int .i64 (R.nV (R.nR (R.nR (R.nR b)))))]), (B + 1, .own 41 (.structs [.i64, .i64, .i64, .u64, .i64] x.2.2.2))], fun x => sdF R (hdN R b - x.1).toNat x.2.1 x.2.2.1 x.2.2.2 = snE R b ∧ (iLe 0 x.1 && iLe x.1 9223372036854775807) = true ∧ byB x.2.1 = true ∧ x.2.2.2.length + x.2.1.length ≤ b.length + (bif x.2.2.1 then 1 else 0), fun x => (hdN R b - x.1).toNat, 0⟩] | _ => []) (fun ds => match ds with | [.ints b] => [(400002, 41, .structs [.i64, .i64, .i64, .u64, .i64] [])] | _ => []) Tryz.func15 (by kernel_rfl) (by kernel_rfl) rfl Tryz.ntmps15 (by decide) ?_ ?_
 ·intro ds p bs F h
  unfold ai6 at h
  split at h
  ·rename_i b
   simp only [zsI, zpI] at h
   obtain ⟨_, _, rfl⟩ := h
   kernel_rfl
  ·cases h
 ·intro ds bs F hl h
  unfold ai6 at h
  split at h
  ·rename_i b
   simp only [zsI, zpI, zaT] at h
   obtain ⟨⟨h0, h1⟩, _, rfl⟩ := h
   exact Eq.mpr (by kernel_rfl) (a8l O R b (dn O hO) hR (by first | exact h0 | (simp only [zaT]; exact h0)) (by first | exact h1 | (simp only [zaT]; exact h1)))
  ·cases h
def bpm (O : OO) (R : OB) (f : FuncId) : Option Sx.Spec := match f with
 | 29 => some (au [.agg [.v, .v, .v, .roS [.i64, .i64, .i64, .u64, .i64], .v]] true (ag5 O R))
 | 15 => some (au [.ro .u8] true (ai6 O R))
 | f => bn7 O R f
theorem bqc (I : Sx.Interp) (O : OO) (hO : O = oo) (R : OB) (hR : R = bO) : ∀ f s, bpm O R f = some s → ag I Tryz.prog f s := by
 intro f s h
 unfold bpm at h
 split at h
 · cases h; exact aqy I O hO R hR
 · cases h; exact axo I O hO R hR
 ·exact aup I O hO R hR _ s h
end Go.Proofs.YtgekiddgdjeaiaaGreat
