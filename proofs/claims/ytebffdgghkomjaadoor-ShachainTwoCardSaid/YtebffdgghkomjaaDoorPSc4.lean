/- ShachainTwo: for every input the law returns true, and each argument reads as it read before. No condition. -/
import Derived.Test.YtebffdgghkomjaaDoorRows
import Derived.WalkKit
import Derived.ProofKit
import Derived.OpenShut
import Derived.ShutString
import Derived.ChangeOld
import Derived.Below
import Derived.Test.YtebffdgghkomjaaDoorArgs
import Derived.Test.YtebffdgghkomjaaDoorTie
import Derived.Test.YtebffdgghkomjaaDoorCards
import Derived.Test.YtebffdgghkomjaaDoorTb
import Derived.LaidMore
import Derived.Lay
import Derived.SevenTiedAt
import Derived.Stop.Joined
import Derived.Test.YtebffdgghkomjaaDoorSc4
import Derived.Test.YtebffdgghkomjaaDoorLeaf
namespace Go.Proofs.YtebffdgghkomjaaDoor.shachainTwo
open Go.ChangeShapes Go.WideShapes Go.ChangeAt Go.RowKit Ckp
open Go.ChangeMaps (open_string shut_string)
set_option linter.unusedVariables false

theorem own : ownKnob Tryd.prog.godebug = none := by kernel_rfl
theorem laidOut : laidOutB Tryd.prog = true := by kernel_rfl

set_option maxRecDepth 100000 in
theorem lifted (os : Os) (started : os.Started) (H : Type) (enc : TypeId × Value → H) :
  ReturnsInHanded {} Tryd.checked os 5 .any (fun w args => (Rows.shachainTwoSpec.pre enc Tryd.prog Tryd.f5 Rows.shachainTwoRow.domain false w args ∧ laidMetH Tryd.prog Rows.shachainTwoRow.laid w) ∧ sizedMet enc Tryd.prog Tryd.f5 (OpenSpec.ofChange Rows.shachainTwoSpec) false w args) (Rows.shachainTwoSpec.post enc Tryd.prog Tryd.f5 false true false false) := by
 refine returnsInHanded_of_change_and (C := Tryd.checked) (X := fun w _ => laidMetH Tryd.prog Rows.shachainTwoRow.laid w) (fun _ _ _ hh h => h.of_heap hh) own started (by kernel_rfl) Tryd.func5
  (ChangeSpec.witness_shaped (enc := enc) (C := Tryd.checked) (os := os) (X := fun w _ => laidMetH Tryd.prog Rows.shachainTwoRow.laid w) false (World.laidAll Tryd.prog os Rows.shachainTwoRow.laid) #[.slice none 0 0] 8 (World.laidAll_os _ _ _)
   (World.shaped_of_ZipB (by kernel_rfl) (by kernel_rfl)) (by kernel_rfl) (by kernel_rfl) (by kernel_rfl)
   (by rw [MakeChecks.laidMetH_plain _ _ _ (by kernel_rfl)]; exact laidMet_laidAll _ (by kernel_rfl) (by kernel_rfl))) ?_
 intro W base args ds gs before hval0 hW hcnd _ hL _
 have hval : ∀ (j : Nat) t v, Tryd.f5.params[j]? = some t → args[j]? = some v → Value.okWide Tryd.prog W .any base t v := hval0
 have hW' := hW
 obtain ⟨p, q, hA0, hV, rfl, hfz, hnd⟩ := hW
 have hA : DataW.TrodAll enc Tryd.prog W 0 (fun _ => true) true Tryd.f5.params.toList args.toList ds p := hA0
 rw [Tryd.params5] at hA hval
 obtain ⟨v0, vs0, d0, ds0, p0, q0, hargs, rfl, rfl, h0, r0⟩ := trodAll_cons hA
 obtain ⟨rfl, rfl, rfl⟩ := trodAll_nil r0
 obtain rfl : args = #[v0] := by cases args; simp_all
 obtain ⟨rfl, rfl⟩ := trodVars_none hV
 have k0 := h0
 have lt0 : ∀ x ∈ p0, x.block < W.heap.size := by obtain ⟨m, hm⟩ := k0; exact DataW.trod_lt m _ _ _ hm
 obtain ⟨a0, len0, cap0, rfl⟩ := okWide_slice Tryd.underlying24 (hval 0 24 v0 rfl rfl)
 obtain ⟨z0, w0⟩ := open_rowS (ks := [.u8, .u8, .u8, .u8, .u8, .u8, .u8, .u8, .u8, .u8, .u8, .u8, .u8, .u8, .u8, .u8, .u8, .u8, .u8, .u8, .u8, .u8, .u8, .u8, .u8, .u8, .u8, .u8, .u8, .u8, .u8, .u8]) Tryd.underlying24 (by kernel_rfl) h0
 have c0 := okWide_has' Tryd.underlying24 (hval 0 24 _ rfl rfl)
 clear hA0 hval0
 have ha : Sx.AmbW IT W := amb_of_laid hL
 refine (walk_two W ha a0 len0 cap0 z0 w0 c0).mono fun e W' ⟨he, bel⟩ => ?_
 subst he
 exact ⟨_, rfl, _, _, _, [], _, [], hW', trodAll_mk1 (shut_bool Tryd.underlying4 _), (trodAll_cons_mk (Below.trod laidOut (by kernel_rfl) (of_decide_eq_true (by kernel_rfl)) k0 bel lt0) trodAll_mk0), rfl, Below.frame bel _, fun h => by cases h⟩

theorem over : Rows.shachainTwoRow.holds Tryd.pinned (OpenSpec.ofChange Rows.shachainTwoSpec) :=
 OpenClaim.holds_of_wide 5 Tryd.f5 rfl rfl rfl rfl rfl rfl rfl ⟨rfl, rfl, rfl, rfl, rfl⟩ rfl rfl rfl rfl rfl (by kernel_rfl) Tryd.func5 (by kernel_rfl)
  (of_decide_eq_true (by kernel_rfl)) (by unfold Func.isWrapper; first | (rw [if_pos (by decide +kernel)]; kernel_rfl) | (rw [if_neg (by decide +kernel)]; exact ⟨rfl, rfl⟩))
  (fun os started H enc _ => lifted os started H enc)

/-- The statement: the row, tied to the program's text. -/
theorem proved : Rows.ShachainTwoCardSaid :=
 Claim7.holds_tied_plain_at .later [] [.data, .data] true (true, "a880e3b42ce20eae65314dc0ab92b6ee865a019c25c715cc013bc4fbb2b721f5") false over (fun _ h => by cases h) (by kernel_rfl) (fun _ h => by cases h) shachainTwo_row_tie rfl ⟨rfl, rfl⟩ (by kernel_rfl) rfl
  (fun f fn hf hfn => by
   obtain rfl : f = 5 := Option.some.inj ((show Tryd.prog.funcNamed "corsned/corsnedlaw10.ShachainTwo" = some 5 by kernel_rfl).symm.trans hf) |>.symm
   obtain rfl : fn = Tryd.f5 := (Option.some.inj (Tryd.func5.symm.trans hfn)).symm
   refine ⟨by kernel_rfl, fun j t ht => ?_⟩
   rw [Tryd.params5] at ht
   have hm := Array.mem_of_getElem? ht
   have hall : (#[24].all fun u => !Tryd.prog.wantsStandIn u) = true := by kernel_rfl
   have := Array.all_eq_true'.1 hall t hm
   exact (show Tryd.prog.wantsStandIn t = false by simpa using this))
  (by kernel_rfl)
#print axioms proved
end Go.Proofs.YtebffdgghkomjaaDoor.shachainTwo
