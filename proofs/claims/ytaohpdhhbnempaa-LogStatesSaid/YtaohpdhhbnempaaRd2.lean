/- Numbers of 64 bits, bytes with their length: code, and corsnedref08's (printed by genRd2.py; VCs by VcTool). -/
import Derived.Test.YtaohpdhhbnempaaRn
namespace Go.Proofs.Ytaohpdhhbnempaa
open Go.RowKit Go.Lib Ckp Cfd Cpd Sx
set_option linter.unusedVariables false
set_option linter.unusedSimpArgs false
set_option maxRecDepth 1000000
/-- Eight bytes of a number. -/
def u64A (n : Int) (i : Nat) : Int := IntKind.u8.wrap (n.fdiv (2 ^ (56 - 8 * i)))
def u64B (n : Int) : List Int := [u64A n 0, u64A n 1, u64A n 2, u64A n 3, u64A n 4, u64A n 5, u64A n 6, u64A n 7]
/-- Are there no eight bytes more? -/
def u64K (l : List Int) (no : Bool) : Bool := bif no then true else iLt (l.length : Int) 8
def u64N (l : List Int) (no : Bool) : Bool := bif u64K l no then true else no
def u64R (l : List Int) (no : Bool) : List Int := bif u64K l no then [] else l.drop 8
def u64S (l : List Int) (no : Bool) : List Int := bif u64K l no then [] else l.take 8
/-- The number of the first k bytes. -/
def u64G (R : OB) (l : List Int) (k : Nat) : Int := R.u64 (l.take k)
def u64V (R : OB) (l : List Int) (no : Bool) : Int := R.u64 (u64S l no)

theorem ofInt_wrap (b : Int) : BitVec.ofInt 64 (IntKind.u64.wrap b) = BitVec.ofInt 64 b := by
 apply BitVec.eq_of_toNat_eq
 rw [BitVec.toNat_ofInt, BitVec.toNat_ofInt, IntKind.wrap_u64]
 congr 1
 exact Int.emod_emod_of_dvd _ ⟨1, by decide⟩
theorem u64_step {R : OB} (hr : R = bO) {X : List Int} {k : Nat} (h : k < X.length) : u64G R X (k + 1) = IntKind.u64.wrap (iOf (BitVec.ofInt 64 (IntKind.u64.wrap (iMul (u64G R X k) (iPow 2 8))) ||| BitVec.ofInt 64 (IntKind.u64.wrap (X.getD k 0))).toNat) := by
 subst hr
 unfold u64G
 rw [ofInt_wrap (X.getD k 0), List.take_add_one, List.getElem?_eq_getElem h]
 show u64F (X.take k ++ [X[k]]) = _
 unfold u64F
 rw [List.foldl_append, List.getD_eq_getElem?_getD, List.getElem?_eq_getElem h]
 rfl
def g_putu (O : OO) (R : OB) (ds : List Dt) : Option (Bool × List Bool × (List Bool → Post)) := match ds with
 | [.ints b, .v (.int .u64 n)] => some ((Nat.ble b.length 1000000) && (inU n 18446744073709551616), [], fun _ => ⟨[.row 1], [(1, .own 5 (.ints .u8 (b ++ u64B n)))]⟩)
 | _ => none
set_option maxHeartbeats 4000000 in
theorem vc_putu (O : OO) (R : OB) (b : List Int) (n : Int) (F : FO O) (hr : R = bO) (h0 : (Nat.ble b.length 1000000) = true) (h1 : (inU n 18446744073709551616) = true) :
 If (b.length.ble 1073741824 && Nat.ble 8 1073741824) (True ∧ EqI (app b [IntKind.u8.wrap (n.fdiv (iPow 2 56)), IntKind.u8.wrap (n.fdiv (iPow 2 48)), IntKind.u8.wrap (n.fdiv (iPow 2
  40)), IntKind.u8.wrap (n.fdiv (iPow 2 32)), IntKind.u8.wrap (n.fdiv (iPow 2 24)), IntKind.u8.wrap (n.fdiv (iPow 2 16)), IntKind.u8.wrap (n.fdiv (iPow 2 8)), IntKind.u8.wrap (n.fdiv
  (iPow 2 0))]) (app b (u64B n)) ∧ True) False := by
 have h0' := Nat.le_of_ble_eq_true h0
 exact Sx.if_true (by simp only [Sx.Bz, Sx.Cont.n]; omega) ⟨trivial, rfl, trivial⟩
theorem wpc_putu (O : OO) (R : OB) (b : List Int) (n : Int) (F : FO O) (hr : R = bO) (h0 : (Nat.ble b.length 1000000) = true) (h1 : (inU n 18446744073709551616) = true) : wpcI Try.prog (spQ6 O R) Try.f48.ntmps [Ann.walk 9] (bodyOf Try.f48) 0 64 (envP (mks [.ro .u8, .v] [.ints b, .v (.int .u64 n)] 0).1 0) (mks [.ro .u8, .v] [.ints b, .v (.int .u64 n)] 0).2 (retP Try.prog Try.f48.results.toList 1 (⟨[.row 1], [(1, .own 5 (.ints .u8 (b ++ u64B n)))]⟩ : Post)) :=
 Eq.mpr (by kernel_rfl) (vc_putu O R b n F hr h0 h1)
theorem ok_putu (I : Sx.Interp) (O : OO) (hO : O = oo) (R : OB) (hR : R = bO) : Sx.SpecOK I Try.prog 48 (pspec [.ro .u8, .v] false (g_putu O R)) := by
 refine spec_pI (spQ6_ok I O hO R hR) (by kernel_rfl) (fun ds => match ds with | [.ints b, .v (.int .u64 n)] => [Ann.walk 9] | _ => []) Try.func48 (by kernel_rfl) (by kernel_rfl) rfl Try.ntmps48 (by decide) ?_ ?_
 ·intro ds p bs F h
  unfold g_putu at h
  split at h
  ·rename_i b n
   simp only [Option.some.injEq, Prod.mk.injEq] at h
   obtain ⟨_, _, rfl⟩ := h
   kernel_rfl
  ·cases h
 ·intro ds bs F hl h
  unfold g_putu at h
  split at h
  ·rename_i b n
   simp only [Option.some.injEq, Prod.mk.injEq, Bool.and_eq_true] at h
   obtain ⟨⟨h0, h1⟩, _, rfl⟩ := h
   exact wpc_putu O R b n (fo_oo O hO) hR (by first | exact h0 | (simp only [Bool.and_eq_true]; exact h0)) (by first | exact h1 | (simp only [Bool.and_eq_true]; exact h1))
  ·cases h
def g_u64r (O : OO) (R : OB) (ds : List Dt) : Option (Bool × List Bool × (List Bool → Post)) := match ds with
 | [.node [.ints l, .v (.bool no)]] => some ((Nat.ble l.length 1000000), [], fun _ => ⟨[.v (.int .u64 (u64V R l no))], [(0, .blk 127 [.row 2, .v (.bool (u64N l no))]), (2, .ro (.ints .u8 (u64R l no)))]⟩)
 | _ => none
set_option maxHeartbeats 4000000 in
theorem vc_u64r (O : OO) (R : OB) (l : List Int) (no : Bool) (F : FO O) (hr : R = bO) (h0 : (Nat.ble l.length 1000000) = true) :
 If (l.length.ble 1000000 && iLe 0 8) ((∃ (x : Nat), x ≤ (u64S l no).length ∧ (Value.int .u64 0 = Value.int .u64 (u64G R (u64S l no) x) ∧ Value.int .i64 0 = Value.int .i64 (iOf x) ∧
  Value.int .i64 (iOf (bif bif no then true else iLt (iOf l.length) 8 then [] else List.take 8 l).length) = Value.int .i64 (iOf (bif bif no then true else iLt (iOf l.length) 8 then []
  else List.take 8 l).length) ∧ True) ∧ EqI (bif bif no then true else iLt (iOf l.length) 8 then [] else List.take 8 l) (bif bif no then true else iLt (iOf l.length) 8 then [] else
  List.take 8 l) ∧ Value.bool (bif bif no then true else iLt (iOf l.length) 8 then true else no) = Value.bool (bif bif no then true else iLt (iOf l.length) 8 then true else no) ∧ EqI
  (bif bif no then true else iLt (iOf l.length) 8 then [] else List.drop 8 l) (bif bif no then true else iLt (iOf l.length) 8 then [] else List.drop 8 l) ∧ EqI l l ∧ True) ∧ ∀ (x :
  Nat), x ≤ (u64S l no).length → If (iLt (iOf x) (iOf (Cont.ints .u8 (bif bif no then true else iLt (iOf l.length) 8 then [] else List.take (Int.toNat 8) l)).n)) (If (iLe 0 (iOf x) &&
  (iOf x).toNat.blt (bif bif no then true else iLt (iOf l.length) 8 then [] else List.take 8 l).length) (If (true && Nat.beq 1 1 && (iOf x).toNat.blt (bif bif no then true else iLt
  (iOf l.length) 8 then [] else List.take 8 l).length) (∃ (x' : Nat), x' ≤ (u64S l no).length ∧ (nSub (u64S l no).length x').succ ≤ nSub (u64S l no).length x ∧ (Value.int .u64
  (IntKind.u64.wrap (iOf (BitVec.ofInt 64 (IntKind.u64.wrap (iMul (u64G R (u64S l no) x) (iPow 2 8))) ||| BitVec.ofInt 64 (IntKind.u64.wrap ((bif bif no then true else iLt (iOf
  l.length) 8 then [] else List.take 8 l).getD (iOf x).toNat 0))).toNat)) = Value.int .u64 (u64G R (u64S l no) x') ∧ Value.int .i64 (IntKind.i64.wrap (iAdd (iOf x) 1)) = Value.int
  .i64 (iOf x') ∧ Value.int .i64 (iOf (bif bif no then true else iLt (iOf l.length) 8 then [] else List.take 8 l).length) = Value.int .i64 (iOf (bif bif no then true else iLt (iOf
  l.length) 8 then [] else List.take 8 l).length) ∧ True) ∧ EqI (bif bif no then true else iLt (iOf l.length) 8 then [] else List.take 8 l) (bif bif no then true else iLt (iOf
  l.length) 8 then [] else List.take 8 l) ∧ Value.bool (bif bif no then true else iLt (iOf l.length) 8 then true else no) = Value.bool (bif bif no then true else iLt (iOf l.length) 8
  then true else no) ∧ EqI (bif bif no then true else iLt (iOf l.length) 8 then [] else List.drop 8 l) (bif bif no then true else iLt (iOf l.length) 8 then [] else List.drop 8 l) ∧
  EqI l l ∧ True) False) False) (Value.int .u64 (u64G R (u64S l no) x) = Value.int .u64 (u64V R l no) ∧ True ∧ Value.bool (bif bif no then true else iLt (iOf l.length) 8 then true
  else no) = Value.bool (u64N l no) ∧ EqI (bif bif no then true else iLt (iOf l.length) 8 then [] else List.drop 8 l) (u64R l no) ∧ True)) False := by
 have h0' := Nat.le_of_ble_eq_true h0
 have hS0 : (bif bif no then true else iLt (iOf l.length) 8 then [] else List.take 8 l) = u64S l no := rfl
 have hS1 : (bif bif no then true else iLt (iOf l.length) 8 then [] else List.take (Int.toNat 8) l) = u64S l no := rfl
 have hN : (bif bif no then true else iLt (iOf l.length) 8 then true else no) = u64N l no := rfl
 have hRR : (bif bif no then true else iLt (iOf l.length) 8 then [] else List.drop 8 l) = u64R l no := rfl
 have hV : u64V R l no = R.u64 (u64S l no) := rfl
 rw [hS0, hS1, hN, hRR, hV]
 have hlen : (u64S l no).length ≤ 8 := by
  unfold u64S
  cases u64K l no
  ·rw [cond_false, List.length_take]; omega
  ·exact Nat.zero_le _
 generalize u64S l no = X at *
 refine Sx.if_true (by simp only [Sx.Bz, Sx.Cont.n]; exact ⟨h0', by omega⟩) ⟨⟨0, Nat.zero_le _, ⟨?_, rfl, rfl, trivial⟩, rfl, rfl, rfl, rfl, trivial⟩, fun x hx => ?_⟩
 ·subst hr; rfl
 have hn : (iOf x).toNat = x := by simp only [Sx.app, Sx.nAdd, Sx.nSub, Sx.nMul, Sx.nPow, Sx.nDiv, Sx.nMod, Sx.iAdd, Sx.iSub, Sx.iMul, Sx.iNeg, Sx.iPow, Sx.iOf, Int.toNat_natCast]
 rw [hn]
 refine Sx.if_both (fun d => ?_) (fun d => ?_)
 ·simp only [Sx.Bz, Sx.Cont.n, Sx.app, Sx.nAdd, Sx.nSub, Sx.nMul, Sx.nPow, Sx.nDiv, Sx.nMod, Sx.iAdd, Sx.iSub, Sx.iMul, Sx.iNeg, Sx.iPow, Sx.iOf] at d
  have hx' : x < X.length := by omega
  have hb : x.blt X.length = true := by rw [Nat.blt_eq]; exact hx'
  have w1 : IntKind.i64.wrap (iAdd (iOf x) 1) = iOf (x + 1) := by simp only [Sx.app, Sx.nAdd, Sx.nSub, Sx.nMul, Sx.nPow, Sx.nDiv, Sx.nMod, Sx.iAdd, Sx.iSub, Sx.iMul, Sx.iNeg, Sx.iPow, Sx.iOf]; rw [IntKind.wrap_i64]; omega
  rw [hb, w1]
  refine Sx.if_true (by simp only [Sx.Bz, Sx.Cont.n, Sx.app, Sx.nAdd, Sx.nSub, Sx.nMul, Sx.nPow, Sx.nDiv, Sx.nMod, Sx.iAdd, Sx.iSub, Sx.iMul, Sx.iNeg, Sx.iPow, Sx.iOf]; exact ⟨by omega, trivial⟩) (Sx.if_true rfl ⟨x + 1, hx', by simp only [Sx.app, Sx.nAdd, Sx.nSub, Sx.nMul, Sx.nPow, Sx.nDiv, Sx.nMod, Sx.iAdd, Sx.iSub, Sx.iMul, Sx.iNeg, Sx.iPow, Sx.iOf]; omega, ⟨congrArg _ ?_, rfl, rfl, trivial⟩, rfl, rfl, rfl, rfl, trivial⟩)
  exact (u64_step hr hx').symm
 ·simp only [Sx.Bz, Sx.Cont.n, Sx.app, Sx.nAdd, Sx.nSub, Sx.nMul, Sx.nPow, Sx.nDiv, Sx.nMod, Sx.iAdd, Sx.iSub, Sx.iMul, Sx.iNeg, Sx.iPow, Sx.iOf] at d
  obtain rfl : x = X.length := by omega
  exact ⟨congrArg _ (by unfold u64G; rw [List.take_length]), trivial, rfl, rfl, trivial⟩
theorem wpc_u64r (O : OO) (R : OB) (l : List Int) (no : Bool) (F : FO O) (hr : R = bO) (h0 : (Nat.ble l.length 1000000) = true) : wpcI Try.prog (spQ6 O R) Try.f49.ntmps [⟨Nat, [0, 1, 7, 8], [], fun B k => [(3, .v (.int .u64 (u64G R (u64S l no) k))), (9, .v (.int .i64 (k : Nat)))], fun B k => [], fun k => k ≤ (u64S l no).length, fun k => (u64S l no).length - k, 0⟩] (bodyOf Try.f49) 0 64 (envP (mks [.obj 127 [.ro .u8, .v]] [.node [.ints l, .v (.bool no)]] 0).1 0) (mks [.obj 127 [.ro .u8, .v]] [.node [.ints l, .v (.bool no)]] 0).2 (retP Try.prog Try.f49.results.toList 2 (⟨[.v (.int .u64 (u64V R l no))], [(0, .blk 127 [.row 2, .v (.bool (u64N l no))]), (2, .ro (.ints .u8 (u64R l no)))]⟩ : Post)) :=
 Eq.mpr (by kernel_rfl) (vc_u64r O R l no F hr h0)
theorem ok_u64r (I : Sx.Interp) (O : OO) (hO : O = oo) (R : OB) (hR : R = bO) : Sx.SpecOK I Try.prog 49 (pspec [.obj 127 [.ro .u8, .v]] true (g_u64r O R)) := by
 refine spec_pI (spQ6_ok I O hO R hR) (by kernel_rfl) (fun ds => match ds with | [.node [.ints l, .v (.bool no)]] => [⟨Nat, [0, 1, 7, 8], [], fun B k => [(3, .v (.int .u64 (u64G R (u64S l no) k))), (9, .v (.int .i64 (k : Nat)))], fun B k => [], fun k => k ≤ (u64S l no).length, fun k => (u64S l no).length - k, 0⟩] | _ => []) Try.func49 (by kernel_rfl) (by kernel_rfl) rfl Try.ntmps49 (by decide) ?_ ?_
 ·intro ds p bs F h
  unfold g_u64r at h
  split at h
  ·rename_i l no
   simp only [Option.some.injEq, Prod.mk.injEq] at h
   obtain ⟨_, _, rfl⟩ := h
   kernel_rfl
  ·cases h
 ·intro ds bs F hl h
  unfold g_u64r at h
  split at h
  ·rename_i l no
   simp only [Option.some.injEq, Prod.mk.injEq, Bool.and_eq_true] at h
   obtain ⟨h0, _, rfl⟩ := h
   exact wpc_u64r O R l no (fo_oo O hO) hR (by first | exact h0 | (simp only [Bool.and_eq_true]; exact h0))
  ·cases h
end Go.Proofs.Ytaohpdhhbnempaa
