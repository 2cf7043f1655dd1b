/- A sum's bytes laid behind others, by a loop (printed by genPh.py; VCs by VcTool). -/
import Derived.Test.YtcdmmfelagbpdaaGreatCm
namespace Go.Proofs.YtcdmmfelagbpdaaGreat
open Go.RowKit Go.Lib Ckp Cfd Cpd Sx
set_option linter.unusedVariables false
set_option linter.unusedSimpArgs false
set_option maxRecDepth 1000000
theorem tab_lenP (f : Nat → Int) : ∀ n, (tabI f n).length = n
 | 0 => rfl
 | n + 1 => by rw [tabI, List.length_append, tab_lenP f n]; rfl
theorem tab_getP (f : Nat → Int) : ∀ {n i : Nat}, i < n → (tabI f n)[i]? = some (f i)
 | n + 1, i, h => by
  rw [tabI]
  by_cases q : i < n
  ·rw [List.getElem?_append_left (by rw [tab_lenP]; exact q)]; exact tab_getP f q
  ·obtain rfl : i = n := by omega
   rw [List.getElem?_append_right (by rw [tab_lenP]; exact Nat.le_refl _), tab_lenP, Nat.sub_self]; rfl
def anPut (b : List Int) (c : Nat → Int) : List Ann := [⟨Nat, [3], [(5, 5, .ints .u8 [])], fun B k => [(5, .row B), (6, .v (.int .i64 (k : Nat)))], fun B k => [(B, .own 5 (.ints .u8 (b ++ tabI c k)))], fun k => k ≤ 32, fun k => 32 - k, 0⟩]

set_option maxHeartbeats 4000000 in
theorem vc_putHc (b : List Int) (c : Nat → Int) (h0 : (Nat.ble b.length 1000) = true) :
 If ((nMul (nAdd 0 b.length) 1).ble 140737488355328 && (nAdd 0 b.length).ble 9223372036854775807) ((∃ (x : Nat), x ≤ 32 ∧ (Value.int .i64 0 = Value.int .i64 (iOf x) ∧ True) ∧ EqI
  (app [] b) (app b (tabI c x)) ∧ AV c = AV c ∧ True) ∧ ∀ (x : Nat), x ≤ 32 → If (iLt (iOf x) 32) (If (iLe 0 (iOf x) && (iOf x).toNat.blt 32) (If ((nAdd 0 (nMul (iOf x).toNat 1)).blt
  32) (If ((nMul (nAdd (app b (tabI c x)).length 1) 1).ble 140737488355328 && (nAdd (app b (tabI c x)).length 1).ble 9223372036854775807) (∃ (x' : Nat), x' ≤ 32 ∧ (nSub 32 x').succ ≤
  nSub 32 x ∧ (Value.int .i64 (IntKind.i64.wrap (iAdd (iOf x) 1)) = Value.int .i64 (iOf x') ∧ True) ∧ EqI (app (app b (tabI c x)) [(tabI (c) 32).getD (nAdd 0 (nMul (iOf x).toNat 1))
  0]) (app b (tabI c x')) ∧ AV c = AV c ∧ True) False) False) False) (EqI (app b (tabI c x)) (app b (tabI c 32)) ∧ True)) False := by
 have h0' := Nat.le_of_ble_eq_true h0
 refine Sx.if_true (by simp only [Sx.Bz, Sx.Cont.n, Sx.app, Sx.nAdd, Sx.nSub, Sx.nMul, Sx.nPow, Sx.nDiv, Sx.nMod, Sx.iAdd, Sx.iSub, Sx.iMul, Sx.iNeg, Sx.iPow, Sx.iOf]; omega) ⟨⟨0, Nat.zero_le _, ⟨rfl, trivial⟩, (List.append_nil b).symm, rfl, trivial⟩, fun x hx => ?_⟩
 have hn : (iOf x).toNat = x := by simp only [Sx.app, Sx.nAdd, Sx.nSub, Sx.nMul, Sx.nPow, Sx.nDiv, Sx.nMod, Sx.iAdd, Sx.iSub, Sx.iMul, Sx.iNeg, Sx.iPow, Sx.iOf, Int.toNat_natCast]
 have hx1 : nAdd 0 (nMul x 1) = x := by simp only [Sx.app, Sx.nAdd, Sx.nSub, Sx.nMul, Sx.nPow, Sx.nDiv, Sx.nMod, Sx.iAdd, Sx.iSub, Sx.iMul, Sx.iNeg, Sx.iPow, Sx.iOf]; omega
 rw [hn, hx1]
 refine Sx.if_both (fun d => ?_) (fun d => ?_)
 ·simp only [Sx.Bz, Sx.Cont.n, Sx.app, Sx.nAdd, Sx.nSub, Sx.nMul, Sx.nPow, Sx.nDiv, Sx.nMod, Sx.iAdd, Sx.iSub, Sx.iMul, Sx.iNeg, Sx.iPow, Sx.iOf] at d
  have hx' : x < 32 := by omega
  have hb : x.blt 32 = true := by rw [Nat.blt_eq]; exact hx'
  have w1 : IntKind.i64.wrap (iAdd (iOf x) 1) = iOf (x + 1) := by simp only [Sx.app, Sx.nAdd, Sx.nSub, Sx.nMul, Sx.nPow, Sx.nDiv, Sx.nMod, Sx.iAdd, Sx.iSub, Sx.iMul, Sx.iNeg, Sx.iPow, Sx.iOf]; rw [IntKind.wrap_i64]; omega
  have e : (tabI c 32).getD x 0 = c x := by rw [List.getD_eq_getElem?_getD, tab_getP _ hx', Option.getD_some]
  rw [hb, w1, e]
  refine Sx.if_true (by simp only [Sx.Bz, Sx.Cont.n, Sx.app, Sx.nAdd, Sx.nSub, Sx.nMul, Sx.nPow, Sx.nDiv, Sx.nMod, Sx.iAdd, Sx.iSub, Sx.iMul, Sx.iNeg, Sx.iPow, Sx.iOf]; exact ⟨by omega, trivial⟩) (Sx.if_true rfl (Sx.if_true (by simp only [Sx.Bz, Sx.Cont.n, Sx.app, Sx.nAdd, Sx.nSub, Sx.nMul, Sx.nPow, Sx.nDiv, Sx.nMod, Sx.iAdd, Sx.iSub, Sx.iMul, Sx.iNeg, Sx.iPow, Sx.iOf, List.length_append, tab_lenP]; omega) ⟨x + 1, hx', by simp only [Sx.app, Sx.nAdd, Sx.nSub, Sx.nMul, Sx.nPow, Sx.nDiv, Sx.nMod, Sx.iAdd, Sx.iSub, Sx.iMul, Sx.iNeg, Sx.iPow, Sx.iOf]; omega, ⟨rfl, trivial⟩, ?_, rfl, trivial⟩))
  show (b ++ tabI c x) ++ [c x] = b ++ (tabI c x ++ [c x])
  rw [List.append_assoc]
 ·simp only [Sx.Bz, Sx.Cont.n, Sx.app, Sx.nAdd, Sx.nSub, Sx.nMul, Sx.nPow, Sx.nDiv, Sx.nMod, Sx.iAdd, Sx.iSub, Sx.iMul, Sx.iNeg, Sx.iPow, Sx.iOf] at d
  obtain rfl : x = 32 := by omega
  exact ⟨rfl, trivial⟩
theorem wpc_putHc (b : List Int) (c : Nat → Int) (h0 : (Nat.ble b.length 1000) = true) : wpcI Tryz.prog (fun _ => none) Tryz.f75.ntmps (anPut b c) (bodyOf Tryz.f75) 0 64 (envA [.ro .u8, .v] [.ints b, .v (.agg (AV c))] 0) (memA [.ro .u8, .v] [.ints b, .v (.agg (AV c))] 0) (retG Tryz.prog Tryz.f75.results.toList [.ints 5 .u8 (b ++ tabI c 32)]) :=
 Eq.mpr (by kernel_rfl) (vc_putHc b c h0)
end Go.Proofs.YtcdmmfelagbpdaaGreat
