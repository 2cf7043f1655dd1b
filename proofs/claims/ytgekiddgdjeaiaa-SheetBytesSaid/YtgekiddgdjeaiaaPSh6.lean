/- SheetBytes: for every input the law returns true, and each argument reads as it read before. No condition. -/
import Derived.Test.YtgekiddgdjeaiaaRows
import Derived.WalkKit
import Derived.ProofKit
import Derived.OpenShut
import Derived.ShutString
import Derived.ChangeOld
import Derived.Below
import Derived.Test.YtgekiddgdjeaiaaArgs
import Derived.Test.YtgekiddgdjeaiaaLb6
import Derived.Test.YtgekiddgdjeaiaaLeaf
namespace Go.Proofs.Ytgekiddgdjeaiaa.sheetBytes
open Go.ChangeShapes Go.WideShapes Go.ChangeAt Go.RowKit Ckp
open Go.ChangeMaps (open_string shut_string)
set_option linter.unusedVariables false

theorem own : ownKnob Try.prog.godebug = none := by kernel_rfl
theorem laidOut : laidOutB Try.prog = true := by kernel_rfl

set_option maxRecDepth 100000 in
theorem lifted (os : Os) (started : os.Started) (H : Type) (enc : TypeId × Value → H) :
  ReturnsInHanded {} Try.checked os 8 .any (Rows.sheetBytesSpec.pre6 enc Try.prog Try.f8 Rows.sheetBytesRow.domain false) (Rows.sheetBytesSpec.post enc Try.prog Try.f8 false true false false) := by
 refine returnsInHanded_of_change (C := Try.checked) own started (by kernel_rfl) Try.func8
  (ChangeSpec.witness6 (enc := enc) (C := Try.checked) false ⟨#[], #[.agg #[.int .i64 0, .int .i64 0, .int .i64 0, .slice none 0 0, .int .i64 0], .slice none 0 0], []⟩ 8 (by kernel_rfl) (by kernel_rfl) (by kernel_rfl) (by kernel_rfl)) ?_
 intro W base args ds gs before hval0 hW hcnd _
 have hval : ∀ (j : Nat) t v, Try.f8.params[j]? = some t → args[j]? = some v → Value.okWide Try.prog W .any base t v := hval0
 have hW' := hW
 obtain ⟨p, q, hA0, hV, rfl, hfz, hnd⟩ := hW
 have hA : DataW.TrodAll enc Try.prog W 0 (fun _ => true) true Try.f8.params.toList args.toList ds p := hA0
 rw [Try.params8] at hA hval
 obtain ⟨v0, vs0, d0, ds0, p0, q0, hargs, rfl, rfl, h0, r0⟩ := trodAll_cons hA
 obtain ⟨v1, vs1, d1, ds1, p1, q1, rfl, rfl, rfl, h1, r1⟩ := trodAll_cons r0
 obtain ⟨rfl, rfl, rfl⟩ := trodAll_nil r1
 obtain rfl : args = #[v0, v1] := by cases args; simp_all
 obtain ⟨rfl, rfl⟩ := trodVars_none hV
 have k0 := h0
 have lt0 : ∀ x ∈ p0, x.block < W.heap.size := by obtain ⟨m, hm⟩ := k0; exact DataW.trod_lt m _ _ _ hm
 have k1 := h1
 have lt1 : ∀ x ∈ p1, x.block < W.heap.size := by obtain ⟨m, hm⟩ := k1; exact DataW.trod_lt m _ _ _ hm
 obtain ⟨no0, ha0, hb0, rt0, a0, len0, cap0, z0, rfl, _, w0, c0⟩ := open_state2 (l0 := 3) (l3 := 37) (ks := KCl) Try.underlying39 (by kernel_rfl) (by kernel_rfl) (by kernel_rfl) (by kernel_rfl) (by kernel_rfl) Try.underlying3 (by kernel_rfl) Try.underlying37 (by kernel_rfl) ⟨[3, 3, 3, 37, 3], by kernel_rfl, rfl, rfl⟩ (hval 0 39 v0 rfl rfl) h0
 obtain ⟨a1, len1, cap1, rfl⟩ := okWide_slice Try.underlying67 (hval 1 67 v1 rfl rfl)
 obtain ⟨z1, w1⟩ := open_row Try.underlying67 Try.underlying5 (by kernel_rfl) h1
 have c1 := okWide_has' Try.underlying67 (hval 1 67 _ rfl rfl)
 clear hA0 hval0
 refine (walk_sbytes20 W no0 ha0 hb0 rt0 a0 len0 cap0 z0 w0 c0 a1 len1 cap1 z1 w1 c1).mono fun e W' ⟨he, bel⟩ => ?_
 subst he
 exact ⟨_, rfl, _, _, _, [], _, [], hW', trodAll_mk1 (shut_bool Try.underlying4 _), (trodAll_cons_mk (Below.trod laidOut (by kernel_rfl) (of_decide_eq_true (by kernel_rfl)) k0 bel lt0) (trodAll_cons_mk (Below.trod laidOut (by kernel_rfl) (of_decide_eq_true (by kernel_rfl)) k1 bel lt1) trodAll_mk0)), rfl, Below.frame bel _, fun h => by cases h⟩

theorem over : Rows.sheetBytesRow.holds Try.pinned (OpenSpec.ofChange Rows.sheetBytesSpec) :=
 OpenClaim.holds_of_wide 8 Try.f8 rfl rfl rfl rfl rfl rfl rfl ⟨rfl, rfl, rfl, rfl, rfl⟩ rfl rfl rfl rfl rfl (by kernel_rfl) Try.func8 (by kernel_rfl)
  (of_decide_eq_true (by kernel_rfl)) (by unfold Func.isWrapper; first | (rw [if_pos (by decide +kernel)]; kernel_rfl) | (rw [if_neg (by decide +kernel)]; exact ⟨rfl, rfl⟩))
  (fun os started H enc _ => lifted os started H enc)

/-- The statement. -/
theorem proved : Rows.SheetBytesSaid := over
#print axioms proved
end Go.Proofs.Ytgekiddgdjeaiaa.sheetBytes
