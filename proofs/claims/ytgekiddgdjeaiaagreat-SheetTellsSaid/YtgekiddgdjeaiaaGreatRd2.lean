/- Numbers of 64 bits, bytes with their length: code, and corsnedref08's (printed by genRd2.py; VCs by VcTool). -/
import Derived.Test.YtgekiddgdjeaiaaGreatRn
namespace Go.Proofs.YtgekiddgdjeaiaaGreat
open Go.RowKit Go.Lib Ckp Cfd Cpd Sx
open IntKind (i64 u64 u8 i32 u32)
set_option linter.unusedVariables false
set_option linter.unusedSimpArgs false
set_option maxRecDepth 1000000
set_option maxHeartbeats 4000000
def av6 (n : Int) (i : Nat) : Int := u8.wrap (n.fdiv (2 ^ (56 - 8 * i)))
def aln (n : Int) : List Int := [av6 n 0, av6 n 1, av6 n 2, av6 n 3, av6 n 4, av6 n 5, av6 n 6, av6 n 7]
def avl (l : List Int) (no : Bool) : Bool := bif no then true else iLt (l.length : Int) 8
def ae9 (l : List Int) (no : Bool) : Bool := bif avl l no then true else no
def aec (l : List Int) (no : Bool) : List Int := bif avl l no then [] else l.drop 8
def xu (l : List Int) (no : Bool) : List Int := bif avl l no then [] else l.take 8
def ab4 (R : OB) (l : List Int) (k : Nat) : Int := R.u64 (l.take k)
def apo (R : OB) (l : List Int) (no : Bool) : Int := R.u64 (xu l no)

theorem aou (b : Int) : BitVec.ofInt 64 (u64.wrap b) = BitVec.ofInt 64 b := by
 apply BitVec.eq_of_toNat_eq
 rw [BitVec.toNat_ofInt, BitVec.toNat_ofInt, IntKind.wrap_u64]
 congr 1
 exact Int.emod_emod_of_dvd _ ⟨1, by decide⟩
theorem bcc {R : OB} (hr : R = bO) {X : List Int} {k : Nat} (h : k < X.length) : ab4 R X (k + 1) = u64.wrap (iOf (BitVec.ofInt 64 (u64.wrap (aa9 (ab4 R X k) (df 2 8))) ||| BitVec.ofInt 64 (u64.wrap (X.getD k 0))).toNat) := by
 subst hr
 unfold ab4
 rw [aou (X.getD k 0), List.take_add_one, List.getElem?_eq_getElem h]
 show als (X.take k ++ [X[k]]) = _
 unfold als
 rw [List.foldl_append, List.getD_eq_getElem?_getD, List.getElem?_eq_getElem h]
 rfl
def auq (O : OO) (R : OB) (ds : List Dt) : zG := match ds with
 | [.ints b, .v (.int .u64 n)] => some ((Nat.ble b.length 1000000) && (inU n 18446744073709551616), [], fun _ => ⟨[.row 1], [(1, .own 5 (.ints .u8 (b ++ aln n)))]⟩)
 | _ => none
theorem bgj (O : OO) (R : OB) (b : List Int) (n : Int) (F : FO O) (hr : R = bO) (h0 : (Nat.ble b.length 1000000) = true) (h1 : (inU n 18446744073709551616) = true) :
 If (b.length.ble 1073741824 && Nat.ble 8 1073741824) (True ∧ EqI (app b [u8.wrap (n.fdiv (df 2 56)), u8.wrap (n.fdiv (df 2 48)), u8.wrap (n.fdiv (df 2 40)), u8.wrap (n.fdiv (df 2 32)), u8.wrap (n.fdiv (df 2 24)), u8.wrap (n.fdiv (df 2 16)), u8.wrap (n.fdiv (df 2 8)), u8.wrap (n.fdiv (df 2 0))]) (app b (aln n)) ∧ True) False := by
 have h0' := zbL h0
 exact ziT (by simp only [Bz, Sx.af.n]; omega) ⟨trivial, rfl, trivial⟩
theorem be9 (I : Sx.Interp) (O : OO) (hO : O = oo) (R : OB) (hR : R = bO) : ag I Tryz.prog 64 (au [.ro .u8, .v] false (auq O R)) := by
 refine o8 (ahf I O hO R hR) (by kernel_rfl) (fun ds => match ds with | [.ints b, .v (.int .u64 n)] => [Ann.walk 9] | _ => []) Tryz.func64 (by kernel_rfl) (by kernel_rfl) rfl Tryz.ntmps64 (by decide) ?_ ?_
 ·intro ds p bs F h
  unfold auq at h
  split at h
  ·rename_i b n
   simp only [zsI, zpI] at h
   obtain ⟨_, _, rfl⟩ := h
   kernel_rfl
  ·cases h
 ·intro ds bs F hl h
  unfold auq at h
  split at h
  ·rename_i b n
   simp only [zsI, zpI, zaT] at h
   obtain ⟨⟨h0, h1⟩, _, rfl⟩ := h
   exact Eq.mpr (by kernel_rfl) (bgj O R b n (dn O hO) hR (by first | exact h0 | (simp only [zaT]; exact h0)) (by first | exact h1 | (simp only [zaT]; exact h1)))
  ·cases h
def asu (O : OO) (R : OB) (ds : List Dt) : zG := match ds with
 | [.node [.ints l, .v (.bool no)]] => some ((Nat.ble l.length 1000000), [], fun _ => ⟨[.v (.int .u64 (apo R l no))], [(0, .blk 108 [.row 2, .v (.bool (ae9 l no))]), (2, .ro (.ints .u8 (aec l no)))]⟩)
 | _ => none
theorem bhn (O : OO) (R : OB) (l : List Int) (no : Bool) (F : FO O) (hr : R = bO) (h0 : (Nat.ble l.length 1000000) = true) :
 let T1 := bif bif no then true else iLt (iOf l.length) 8 then [] else List.take 8 l; let T2 := bif bif no then true else iLt (iOf l.length) 8 then [] else List.drop 8 l; let T3 := bif bif no then true else iLt (iOf l.length) 8 then true else no;
  If (l.length.ble 1000000 && iLe 0 8) ((∃ (x : Nat), x ≤ (xu l no).length ∧ (Value.int .u64 0 = Value.int .u64 (ab4 R (xu l no) x) ∧ vI 0 = vI (iOf x) ∧ vI (iOf T1.length) = vI
  (iOf T1.length) ∧ True) ∧ EqI T1 T1 ∧ vB T3 = vB T3 ∧ EqI T2 T2 ∧ EqI l l ∧ True) ∧ ∀ (x : Nat), x ≤ (xu l no).length → If (iLt (iOf x) (iOf (af.ints .u8 (bif bif no then true
  else iLt (iOf l.length) 8 then [] else List.take (Int.toNat 8) l)).n)) (If (iLe 0 (iOf x) && (iOf x).toNat.blt T1.length) (If (true && Nat.beq 1 1 && (iOf x).toNat.blt T1.length) (∃
  (x' : Nat), x' ≤ (xu l no).length ∧ (iy (xu l no).length x').succ ≤ iy (xu l no).length x ∧ (Value.int .u64 (u64.wrap (iOf (BitVec.ofInt 64 (u64.wrap (aa9
  (ab4 R (xu l no) x) (df 2 8))) ||| BitVec.ofInt 64 (u64.wrap (T1.getD (iOf x).toNat 0))).toNat)) = Value.int .u64 (ab4 R (xu l no) x') ∧ vI (i64.wrap (dh
  (iOf x) 1)) = vI (iOf x') ∧ vI (iOf T1.length) = vI (iOf T1.length) ∧ True) ∧ EqI T1 T1 ∧ vB T3 = vB T3 ∧ EqI T2 T2 ∧ EqI l l ∧ True) False) False) (Value.int .u64 (ab4 R (xu l
  no) x) = Value.int .u64 (apo R l no) ∧ True ∧ vB T3 = vB (ae9 l no) ∧ EqI T2 (aec l no) ∧ True)) False := by
 conv => zeta
 have h0' := zbL h0
 have hS0 : (bif bif no then true else iLt (iOf l.length) 8 then [] else List.take 8 l) = xu l no := rfl
 have hS1 : (bif bif no then true else iLt (iOf l.length) 8 then [] else List.take (Int.toNat 8) l) = xu l no := rfl
 have hN : (bif bif no then true else iLt (iOf l.length) 8 then true else no) = ae9 l no := rfl
 have hRR : (bif bif no then true else iLt (iOf l.length) 8 then [] else List.drop 8 l) = aec l no := rfl
 have hV : apo R l no = R.u64 (xu l no) := rfl
 rw [hS0, hS1, hN, hRR, hV]
 have hlen : (xu l no).length ≤ 8 := by
  unfold xu
  cases avl l no
  ·rw [cond_false, List.length_take]; omega
  ·exact Nat.zero_le _
 generalize xu l no = X at *
 refine ziT (by simp only [Bz, Sx.af.n]; exact ⟨h0', by omega⟩) ⟨⟨0, Nat.zero_le _, ⟨?_, rfl, rfl, trivial⟩, rfl, rfl, rfl, rfl, trivial⟩, fun x hx => ?_⟩
 ·subst hr; rfl
 have hn : (iOf x).toNat = x := by simp only [zUn, ztN]
 rw [hn]
 refine ae (fun d => ?_) (fun d => ?_)
 ·simp only [Bz, Sx.af.n, zUn] at d
  have hx' : x < X.length := by omega
  have hb : x.blt X.length = true := by rw [Nat.blt_eq]; exact hx'
  have w1 : i64.wrap (dh (iOf x) 1) = iOf (x + 1) := by simp only [zUn]; rw [IntKind.wrap_i64]; omega
  rw [hb, w1]
  refine ziT (by simp only [Bz, Sx.af.n, zUn]; exact ⟨by omega, trivial⟩) (ziT rfl ⟨x + 1, hx', by simp only [zUn]; omega, ⟨congrArg _ ?_, rfl, rfl, trivial⟩, rfl, rfl, rfl, rfl, trivial⟩)
  exact (bcc hr hx').symm
 ·simp only [Bz, Sx.af.n, zUn] at d
  obtain rfl : x = X.length := by omega
  exact ⟨congrArg _ (by unfold ab4; rw [List.take_length]), trivial, rfl, rfl, trivial⟩
theorem bh6 (I : Sx.Interp) (O : OO) (hO : O = oo) (R : OB) (hR : R = bO) : ag I Tryz.prog 49 (au [.obj 108 [.ro .u8, .v]] true (asu O R)) := by
 refine o8 (ahf I O hO R hR) (by kernel_rfl) (fun ds => match ds with | [.node [.ints l, .v (.bool no)]] => [⟨Nat, [0, 1, 7, 8], [], fun B k => [(3, .v (.int .u64 (ab4 R (xu l no) k))), (9, .v (.int .i64 (k : Nat)))], fun B k => [], fun k => k ≤ (xu l no).length, fun k => (xu l no).length - k, 0⟩] | _ => []) Tryz.func49 (by kernel_rfl) (by kernel_rfl) rfl Tryz.ntmps49 (by decide) ?_ ?_
 ·intro ds p bs F h
  unfold asu at h
  split at h
  ·rename_i l no
   simp only [zsI, zpI] at h
   obtain ⟨_, _, rfl⟩ := h
   kernel_rfl
  ·cases h
 ·intro ds bs F hl h
  unfold asu at h
  split at h
  ·rename_i l no
   simp only [zsI, zpI, zaT] at h
   obtain ⟨h0, _, rfl⟩ := h
   exact Eq.mpr (by kernel_rfl) (bhn O R l no (dn O hO) hR (by first | exact h0 | (simp only [zaT]; exact h0)))
  ·cases h
end Go.Proofs.YtgekiddgdjeaiaaGreat
