/- Numbers of 64 bits, bytes with their length: code, and corsnedref08's (printed by genRd2.py; VCs by VcTool). -/
import Derived.Test.YtaohpdhhbnempaaRn
namespace Go.Proofs.Ytaohpdhhbnempaa
open Go.RowKit Go.Lib Ckp Cfd Cpd Sx
open IntKind (i64 u64 u8 i32 u32)
set_option linter.unusedVariables false
set_option linter.unusedSimpArgs false
set_option maxRecDepth 1000000
set_option maxHeartbeats 4000000
def u64A (n : Int) (i : Nat) : Int := u8.wrap (n.fdiv (2 ^ (56 - 8 * i)))
def u64B (n : Int) : List Int := [u64A n 0, u64A n 1, u64A n 2, u64A n 3, u64A n 4, u64A n 5, u64A n 6, u64A n 7]
def u64K (l : List Int) (no : Bool) : Bool := bif no then true else iLt (l.length : Int) 8
def u64N (l : List Int) (no : Bool) : Bool := bif u64K l no then true else no
def u64R (l : List Int) (no : Bool) : List Int := bif u64K l no then [] else l.drop 8
def u64S (l : List Int) (no : Bool) : List Int := bif u64K l no then [] else l.take 8
def u64G (R : OB) (l : List Int) (k : Nat) : Int := R.u64 (l.take k)
def u64V (R : OB) (l : List Int) (no : Bool) : Int := R.u64 (u64S l no)

theorem ofInt_wrap (b : Int) : BitVec.ofInt 64 (u64.wrap b) = BitVec.ofInt 64 b := by
 apply BitVec.eq_of_toNat_eq
 rw [BitVec.toNat_ofInt, BitVec.toNat_ofInt, IntKind.wrap_u64]
 congr 1
 exact Int.emod_emod_of_dvd _ ⟨1, by decide⟩
theorem u64_step {R : OB} (hr : R = bO) {X : List Int} {k : Nat} (h : k < X.length) : u64G R X (k + 1) = u64.wrap (iOf (BitVec.ofInt 64 (u64.wrap (iMul (u64G R X k) (iPow 2 8))) ||| BitVec.ofInt 64 (u64.wrap (X.getD k 0))).toNat) := by
 subst hr
 unfold u64G
 rw [ofInt_wrap (X.getD k 0), List.take_add_one, List.getElem?_eq_getElem h]
 show u64F (X.take k ++ [X[k]]) = _
 unfold u64F
 rw [List.foldl_append, List.getD_eq_getElem?_getD, List.getElem?_eq_getElem h]
 rfl
def g_putu (O : OO) (R : OB) (ds : List Dt) : zG := match ds with
 | [.ints b, .v (.int .u64 n)] => some ((Nat.ble b.length 1000000) && (inU n 18446744073709551616), [], fun _ => ⟨[.row 1], [(1, .own 5 (.ints .u8 (b ++ u64B n)))]⟩)
 | _ => none
theorem vc_putu (O : OO) (R : OB) (b : List Int) (n : Int) (F : FO O) (hr : R = bO) (h0 : (Nat.ble b.length 1000000) = true) (h1 : (inU n 18446744073709551616) = true) :
 If (b.length.ble 1073741824 && Nat.ble 8 1073741824) (True ∧ EqI (app b [u8.wrap (n.fdiv (iPow 2 56)), u8.wrap (n.fdiv (iPow 2 48)), u8.wrap (n.fdiv (iPow 2 40)), u8.wrap (n.fdiv (iPow 2 32)), u8.wrap (n.fdiv (iPow 2 24)), u8.wrap (n.fdiv (iPow 2 16)), u8.wrap (n.fdiv (iPow 2 8)), u8.wrap (n.fdiv (iPow 2 0))]) (app b (u64B n)) ∧ True) False := by
 have h0' := zbL h0
 exact ziT (by simp only [Bz, Sx.Cont.n]; omega) ⟨trivial, rfl, trivial⟩
theorem ok_putu (I : Sx.Interp) (O : OO) (hO : O = oo) (R : OB) (hR : R = bO) : Sx.SpecOK I Try.prog 48 (pspec [.ro .u8, .v] false (g_putu O R)) := by
 refine spec_pI (spQ6_ok I O hO R hR) (by kernel_rfl) (fun ds => match ds with | [.ints b, .v (.int .u64 n)] => [Ann.walk 9] | _ => []) Try.func48 (by kernel_rfl) (by kernel_rfl) rfl Try.ntmps48 (by decide) ?_ ?_
 ·intro ds p bs F h
  unfold g_putu at h
  split at h
  ·rename_i b n
   simp only [zsI, zpI] at h
   obtain ⟨_, _, rfl⟩ := h
   kernel_rfl
  ·cases h
 ·intro ds bs F hl h
  unfold g_putu at h
  split at h
  ·rename_i b n
   simp only [zsI, zpI, zaT] at h
   obtain ⟨⟨h0, h1⟩, _, rfl⟩ := h
   exact Eq.mpr (by kernel_rfl) (vc_putu O R b n (fo_oo O hO) hR (by first | exact h0 | (simp only [zaT]; exact h0)) (by first | exact h1 | (simp only [zaT]; exact h1)))
  ·cases h
def g_u64r (O : OO) (R : OB) (ds : List Dt) : zG := match ds with
 | [.node [.ints l, .v (.bool no)]] => some ((Nat.ble l.length 1000000), [], fun _ => ⟨[.v (.int .u64 (u64V R l no))], [(0, .blk 127 [.row 2, .v (.bool (u64N l no))]), (2, .ro (.ints .u8 (u64R l no)))]⟩)
 | _ => none
theorem vc_u64r (O : OO) (R : OB) (l : List Int) (no : Bool) (F : FO O) (hr : R = bO) (h0 : (Nat.ble l.length 1000000) = true) :
 let T1 := bif bif no then true else iLt (iOf l.length) 8 then [] else List.take 8 l; let T2 := bif bif no then true else iLt (iOf l.length) 8 then [] else List.drop 8 l; let T3 := bif bif no then true else iLt (iOf l.length) 8 then true else no;
  If (l.length.ble 1000000 && iLe 0 8) ((∃ (x : Nat), x ≤ (u64S l no).length ∧ (Value.int .u64 0 = Value.int .u64 (u64G R (u64S l no) x) ∧ yI 0 = yI (iOf x) ∧ yI (iOf T1.length) = yI
  (iOf T1.length) ∧ True) ∧ EqI T1 T1 ∧ yB T3 = yB T3 ∧ EqI T2 T2 ∧ EqI l l ∧ True) ∧ ∀ (x : Nat), x ≤ (u64S l no).length → If (iLt (iOf x) (iOf (Cont.ints .u8 (bif bif no then true
  else iLt (iOf l.length) 8 then [] else List.take (Int.toNat 8) l)).n)) (If (iLe 0 (iOf x) && (iOf x).toNat.blt T1.length) (If (true && Nat.beq 1 1 && (iOf x).toNat.blt T1.length) (∃
  (x' : Nat), x' ≤ (u64S l no).length ∧ (nSub (u64S l no).length x').succ ≤ nSub (u64S l no).length x ∧ (Value.int .u64 (u64.wrap (iOf (BitVec.ofInt 64 (u64.wrap (iMul
  (u64G R (u64S l no) x) (iPow 2 8))) ||| BitVec.ofInt 64 (u64.wrap (T1.getD (iOf x).toNat 0))).toNat)) = Value.int .u64 (u64G R (u64S l no) x') ∧ yI (i64.wrap (iAdd
  (iOf x) 1)) = yI (iOf x') ∧ yI (iOf T1.length) = yI (iOf T1.length) ∧ True) ∧ EqI T1 T1 ∧ yB T3 = yB T3 ∧ EqI T2 T2 ∧ EqI l l ∧ True) False) False) (Value.int .u64 (u64G R (u64S l
  no) x) = Value.int .u64 (u64V R l no) ∧ True ∧ yB T3 = yB (u64N l no) ∧ EqI T2 (u64R l no) ∧ True)) False := by
 conv => zeta
 have h0' := zbL h0
 have hS0 : (bif bif no then true else iLt (iOf l.length) 8 then [] else List.take 8 l) = u64S l no := rfl
 have hS1 : (bif bif no then true else iLt (iOf l.length) 8 then [] else List.take (Int.toNat 8) l) = u64S l no := rfl
 have hN : (bif bif no then true else iLt (iOf l.length) 8 then true else no) = u64N l no := rfl
 have hRR : (bif bif no then true else iLt (iOf l.length) 8 then [] else List.drop 8 l) = u64R l no := rfl
 have hV : u64V R l no = R.u64 (u64S l no) := rfl
 rw [hS0, hS1, hN, hRR, hV]
 have hlen : (u64S l no).length ≤ 8 := by
  unfold u64S
  cases u64K l no
  ·rw [cond_false, List.length_take]; omega
  ·exact Nat.zero_le _
 generalize u64S l no = X at *
 refine ziT (by simp only [Bz, Sx.Cont.n]; exact ⟨h0', by omega⟩) ⟨⟨0, Nat.zero_le _, ⟨?_, rfl, rfl, trivial⟩, rfl, rfl, rfl, rfl, trivial⟩, fun x hx => ?_⟩
 ·subst hr; rfl
 have hn : (iOf x).toNat = x := by simp only [zUn, ztN]
 rw [hn]
 refine Sx.if_both (fun d => ?_) (fun d => ?_)
 ·simp only [Bz, Sx.Cont.n, zUn] at d
  have hx' : x < X.length := by omega
  have hb : x.blt X.length = true := by rw [Nat.blt_eq]; exact hx'
  have w1 : i64.wrap (iAdd (iOf x) 1) = iOf (x + 1) := by simp only [zUn]; rw [IntKind.wrap_i64]; omega
  rw [hb, w1]
  refine ziT (by simp only [Bz, Sx.Cont.n, zUn]; exact ⟨by omega, trivial⟩) (ziT rfl ⟨x + 1, hx', by simp only [zUn]; omega, ⟨congrArg _ ?_, rfl, rfl, trivial⟩, rfl, rfl, rfl, rfl, trivial⟩)
  exact (u64_step hr hx').symm
 ·simp only [Bz, Sx.Cont.n, zUn] at d
  obtain rfl : x = X.length := by omega
  exact ⟨congrArg _ (by unfold u64G; rw [List.take_length]), trivial, rfl, rfl, trivial⟩
theorem ok_u64r (I : Sx.Interp) (O : OO) (hO : O = oo) (R : OB) (hR : R = bO) : Sx.SpecOK I Try.prog 49 (pspec [.obj 127 [.ro .u8, .v]] true (g_u64r O R)) := by
 refine spec_pI (spQ6_ok I O hO R hR) (by kernel_rfl) (fun ds => match ds with | [.node [.ints l, .v (.bool no)]] => [⟨Nat, [0, 1, 7, 8], [], fun B k => [(3, .v (.int .u64 (u64G R (u64S l no) k))), (9, .v (.int .i64 (k : Nat)))], fun B k => [], fun k => k ≤ (u64S l no).length, fun k => (u64S l no).length - k, 0⟩] | _ => []) Try.func49 (by kernel_rfl) (by kernel_rfl) rfl Try.ntmps49 (by decide) ?_ ?_
 ·intro ds p bs F h
  unfold g_u64r at h
  split at h
  ·rename_i l no
   simp only [zsI, zpI] at h
   obtain ⟨_, _, rfl⟩ := h
   kernel_rfl
  ·cases h
 ·intro ds bs F hl h
  unfold g_u64r at h
  split at h
  ·rename_i l no
   simp only [zsI, zpI, zaT] at h
   obtain ⟨h0, _, rfl⟩ := h
   exact Eq.mpr (by kernel_rfl) (vc_u64r O R l no (fo_oo O hO) hR (by first | exact h0 | (simp only [zaT]; exact h0)))
  ·cases h
end Go.Proofs.Ytaohpdhhbnempaa
