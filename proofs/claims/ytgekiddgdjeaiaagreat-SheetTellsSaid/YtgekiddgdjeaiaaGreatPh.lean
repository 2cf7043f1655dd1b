/- A sum's bytes laid behind others, by a loop (printed by genPh.py; VCs by VcTool). -/
import Derived.Test.YtgekiddgdjeaiaaGreatCm
namespace Go.Proofs.YtgekiddgdjeaiaaGreat
open Go.RowKit Go.Lib Ckp Cfd Cpd Sx
set_option linter.unusedVariables false
set_option linter.unusedSimpArgs false
set_option maxRecDepth 1000000
set_option maxHeartbeats 4000000
theorem agp (f : Nat → Int) : ∀ n, (jo f n).length = n
 | 0 => rfl
 | n + 1 => by rw [jo, zlA, agp f n]; rfl
theorem ax3 (f : Nat → Int) : ∀ {n i : Nat}, i < n → (jo f n)[i]? = some (f i)
 | n + 1, i, h => by
  rw [jo]
  by_cases q : i < n
  ·rw [List.getElem?_append_left (by rw [agp]; exact q)]; exact ax3 f q
  ·obtain rfl : i = n := by omega
   rw [List.getElem?_append_right (by rw [agp]; exact Nat.le_refl _), agp, Nat.sub_self]; rfl
def bkm (b : List Int) (c : Nat → Int) : List Ann := [⟨Nat, [3], [(5, 5, .ints .u8 [])], fun B k => [(5, .row B), (6, .v (.int .i64 (k : Nat)))], fun B k => [(B, .own 5 (.ints .u8 (b ++ jo c k)))], fun k => k ≤ 32, fun k => 32 - k, 0⟩]

theorem bac (b : List Int) (c : Nat → Int) (h0 : (Nat.ble b.length 1000) = true) :
 If ((jd (ay 0 b.length) 1).ble 140737488355328 && (ay 0 b.length).ble 9223372036854775807) ((∃ (x : Nat), x ≤ 32 ∧ (vI 0 = vI (iOf x) ∧ True) ∧ EqI (app [] b) (app b (jo c x)) ∧ AV c = AV c ∧ True) ∧ ∀ (x : Nat), x ≤ 32 → If (iLt (iOf x) 32) (If (iLe 0 (iOf x) && (iOf x).toNat.blt 32) (If ((ay 0 (jd (iOf x).toNat 1)).blt 32) (If ((jd (ay (app b (jo c x)).length 1) 1).ble 140737488355328 && (ay (app b (jo c x)).length 1).ble 9223372036854775807) (∃ (x' : Nat), x' ≤ 32 ∧ (iy 32 x').succ ≤ iy 32 x ∧ (vI (IntKind.i64.wrap (dh (iOf x) 1)) = vI (iOf x') ∧ True) ∧ EqI (app (app b (jo c x)) [(jo (c) 32).getD (ay 0 (jd (iOf x).toNat 1)) 0]) (app b (jo c x')) ∧ AV c = AV c ∧ True) False) False) False) (EqI (app b (jo c x)) (app b (jo c 32)) ∧ True)) False := by
 have h0' := zbL h0
 refine ziT (by simp only [Bz, Sx.af.n, zUn]; omega) ⟨⟨0, Nat.zero_le _, ⟨rfl, trivial⟩, (List.append_nil b).symm, rfl, trivial⟩, fun x hx => ?_⟩
 have hn : (iOf x).toNat = x := by simp only [zUn, ztN]
 have hx1 : ay 0 (jd x 1) = x := by simp only [zUn]; omega
 rw [hn, hx1]
 refine ae (fun d => ?_) (fun d => ?_)
 ·simp only [Bz, Sx.af.n, zUn] at d
  have hx' : x < 32 := by omega
  have hb : x.blt 32 = true := by rw [Nat.blt_eq]; exact hx'
  have w1 : IntKind.i64.wrap (dh (iOf x) 1) = iOf (x + 1) := by simp only [zUn]; rw [IntKind.wrap_i64]; omega
  have e : (jo c 32).getD x 0 = c x := by rw [List.getD_eq_getElem?_getD, ax3 _ hx', Option.getD_some]
  rw [hb, w1, e]
  refine ziT (by simp only [Bz, Sx.af.n, zUn]; exact ⟨by omega, trivial⟩) (ziT rfl (ziT (by simp only [Bz, Sx.af.n, zUn, zlA, agp]; omega) ⟨x + 1, hx', by simp only [zUn]; omega, ⟨rfl, trivial⟩, ?_, rfl, trivial⟩))
  show (b ++ jo c x) ++ [c x] = b ++ (jo c x ++ [c x])
  rw [List.append_assoc]
 ·simp only [Bz, Sx.af.n, zUn] at d
  obtain rfl : x = 32 := by omega
  exact ⟨rfl, trivial⟩
theorem a7i (b : List Int) (c : Nat → Int) (h0 : (Nat.ble b.length 1000) = true) : apt Tryz.prog (fun _ => none) Tryz.f114.ntmps (bkm b c) (wu Tryz.f114) 0 64 (ae5 [.ro .u8, .v] [.ints b, .v (.agg (AV c))] 0) (afm [.ro .u8, .v] [.ints b, .v (.agg (AV c))] 0) (aph Tryz.prog Tryz.f114.results.toList [.ints 5 .u8 (b ++ jo c 32)]) :=
 Eq.mpr (by kernel_rfl) (bac b c h0)
end Go.Proofs.YtgekiddgdjeaiaaGreat
