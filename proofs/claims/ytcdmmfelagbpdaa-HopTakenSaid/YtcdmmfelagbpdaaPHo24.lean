/- HopTaken: for every input the law returns true, and each argument reads as it read before. No condition. -/
import Derived.Test.YtcdmmfelagbpdaaRows
import Derived.WalkKit
import Derived.ProofKit
import Derived.OpenShut
import Derived.ShutString
import Derived.ChangeOld
import Derived.Below
import Derived.Test.YtcdmmfelagbpdaaArgs
import Derived.Test.YtcdmmfelagbpdaaHx5
import Derived.Test.YtcdmmfelagbpdaaLeaf
namespace Go.Proofs.Ytcdmmfelagbpdaa.hopTaken
open Go.ChangeShapes Go.WideShapes Go.ChangeAt Go.RowKit Ckp
open Go.ChangeMaps (open_string shut_string)
set_option linter.unusedVariables false

theorem own : ownKnob Try.prog.godebug = none := by kernel_rfl
theorem laidOut : laidOutB Try.prog = true := by kernel_rfl

set_option maxRecDepth 100000 in
theorem lifted (os : Os) (started : os.Started) (H : Type) (enc : TypeId × Value → H) :
  ReturnsInHanded {} Try.checked os 13 .any (Rows.hopTakenSpec.pre6 enc Try.prog Try.f13 Rows.hopTakenRow.domain false) (Rows.hopTakenSpec.post enc Try.prog Try.f13 false true false false) := by
 refine returnsInHanded_of_change (C := Try.checked) own started (by kernel_rfl) Try.func13
  (ChangeSpec.witness6 (enc := enc) (C := Try.checked) false ⟨#[], #[.agg #[.int .i64 0, .int .i64 0, .int .i64 0, .int .i64 0, .int .u64 0, .int .u64 0], .int .u64 0, .agg #[.int .i64 0, .int .i64 0, .int .i64 0, .int .u64 0, .int .i64 0], .agg #[.int .i64 0, .int .i64 0, .int .i64 0, .int .i64 0, .int .i64 0], .int .i64 0, .agg #[.int .i64 0, .int .i64 0, .int .i64 0], .int .u64 0, .agg #[.int .u8 0, .int .u8 0, .int .u8 0, .int .u8 0, .int .u8 0, .int .u8 0, .int .u8 0, .int .u8 0, .int .u8 0, .int .u8 0, .int .u8 0, .int .u8 0, .int .u8 0, .int .u8 0, .int .u8 0, .int .u8 0, .int .u8 0, .int .u8 0, .int .u8 0, .int .u8 0, .int .u8 0, .int .u8 0, .int .u8 0, .int .u8 0, .int .u8 0, .int .u8 0, .int .u8 0, .int .u8 0, .int .u8 0, .int .u8 0, .int .u8 0, .int .u8 0]], []⟩ 8 (by kernel_rfl) (by kernel_rfl) (by kernel_rfl) (by kernel_rfl)) ?_
 intro W base args ds gs before hval0 hW hcnd _
 have hval : ∀ (j : Nat) t v, Try.f13.params[j]? = some t → args[j]? = some v → Value.okWide Try.prog W .any base t v := hval0
 have hW' := hW
 obtain ⟨p, q, hA0, hV, rfl, hfz, hnd⟩ := hW
 have hA : DataW.TrodAll enc Try.prog W 0 (fun _ => true) true Try.f13.params.toList args.toList ds p := hA0
 rw [Try.params13] at hA hval
 obtain ⟨v0, vs0, d0, ds0, p0, q0, hargs, rfl, rfl, h0, r0⟩ := trodAll_cons hA
 obtain ⟨v1, vs1, d1, ds1, p1, q1, rfl, rfl, rfl, h1, r1⟩ := trodAll_cons r0
 obtain ⟨v2, vs2, d2, ds2, p2, q2, rfl, rfl, rfl, h2, r2⟩ := trodAll_cons r1
 obtain ⟨v3, vs3, d3, ds3, p3, q3, rfl, rfl, rfl, h3, r3⟩ := trodAll_cons r2
 obtain ⟨v4, vs4, d4, ds4, p4, q4, rfl, rfl, rfl, h4, r4⟩ := trodAll_cons r3
 obtain ⟨v5, vs5, d5, ds5, p5, q5, rfl, rfl, rfl, h5, r5⟩ := trodAll_cons r4
 obtain ⟨v6, vs6, d6, ds6, p6, q6, rfl, rfl, rfl, h6, r6⟩ := trodAll_cons r5
 obtain ⟨v7, vs7, d7, ds7, p7, q7, rfl, rfl, rfl, h7, r7⟩ := trodAll_cons r6
 obtain ⟨rfl, rfl, rfl⟩ := trodAll_nil r7
 obtain rfl : args = #[v0, v1, v2, v3, v4, v5, v6, v7] := by cases args; simp_all
 obtain ⟨rfl, rfl⟩ := trodVars_none hV
 have k0 := h0
 have lt0 : ∀ x ∈ p0, x.block < W.heap.size := by obtain ⟨m, hm⟩ := k0; exact DataW.trod_lt m _ _ _ hm
 have k1 := h1
 have lt1 : ∀ x ∈ p1, x.block < W.heap.size := by obtain ⟨m, hm⟩ := k1; exact DataW.trod_lt m _ _ _ hm
 have k2 := h2
 have lt2 : ∀ x ∈ p2, x.block < W.heap.size := by obtain ⟨m, hm⟩ := k2; exact DataW.trod_lt m _ _ _ hm
 have k3 := h3
 have lt3 : ∀ x ∈ p3, x.block < W.heap.size := by obtain ⟨m, hm⟩ := k3; exact DataW.trod_lt m _ _ _ hm
 have k4 := h4
 have lt4 : ∀ x ∈ p4, x.block < W.heap.size := by obtain ⟨m, hm⟩ := k4; exact DataW.trod_lt m _ _ _ hm
 have k5 := h5
 have lt5 : ∀ x ∈ p5, x.block < W.heap.size := by obtain ⟨m, hm⟩ := k5; exact DataW.trod_lt m _ _ _ hm
 have k6 := h6
 have lt6 : ∀ x ∈ p6, x.block < W.heap.size := by obtain ⟨m, hm⟩ := k6; exact DataW.trod_lt m _ _ _ hm
 have k7 := h7
 have lt7 : ∀ x ∈ p7, x.block < W.heap.size := by obtain ⟨m, hm⟩ := k7; exact DataW.trod_lt m _ _ _ hm
 obtain ⟨z0, hl0, rfl, hw0⟩ := open_flat (ks := [.i64, .i64, .i64, .i64, .u64, .u64]) (by kernel_rfl) (okWide_struct Try.underlying55 (hval 0 55 v0 rfl rfl)) h0
 obtain ⟨a0_0, a0_1, a0_2, a0_3, a0_4, a0_5, rfl⟩ := list6 hl0
 obtain ⟨wa0_0, wa0_1, wa0_2, wa0_3, wa0_4, wa0_5, _⟩ := hw0
 obtain ⟨na0_4, ba0_4, rfl⟩ := nat_u64 wa0_4
 obtain ⟨na0_5, ba0_5, rfl⟩ := nat_u64 wa0_5
 obtain ⟨a1, rfl, rfl, rfl, w1⟩ := open_int Try.underlying53 (hval 1 53 v1 rfl rfl) h1
 obtain ⟨n1, b1, rfl⟩ := nat_u64 w1
 obtain ⟨z2, hl2, rfl, hw2⟩ := open_flat (ks := [.i64, .i64, .i64, .u64, .i64]) (by kernel_rfl) (okWide_struct Try.underlying52 (hval 2 52 v2 rfl rfl)) h2
 obtain ⟨a2_0, a2_1, a2_2, a2_3, a2_4, rfl⟩ := list5 hl2
 obtain ⟨wa2_0, wa2_1, wa2_2, wa2_3, wa2_4, _⟩ := hw2
 obtain ⟨na2_3, ba2_3, rfl⟩ := nat_u64 wa2_3
 obtain ⟨z3, hl3, rfl, hw3⟩ := open_flat (ks := [.i64, .i64, .i64, .i64, .i64]) (by kernel_rfl) (okWide_struct Try.underlying50 (hval 3 50 v3 rfl rfl)) h3
 obtain ⟨a3_0, a3_1, a3_2, a3_3, a3_4, rfl⟩ := list5 hl3
 obtain ⟨wa3_0, wa3_1, wa3_2, wa3_3, wa3_4, _⟩ := hw3
 obtain ⟨a4, rfl, rfl, rfl, w4⟩ := open_int Try.underlying3 (hval 4 3 v4 rfl rfl) h4
 obtain ⟨z5, hl5, rfl, hw5⟩ := open_flat (ks := [.i64, .i64, .i64]) (by kernel_rfl) (okWide_struct Try.underlying57 (hval 5 57 v5 rfl rfl)) h5
 obtain ⟨a5_0, a5_1, a5_2, rfl⟩ := list3 hl5
 obtain ⟨wa5_0, wa5_1, wa5_2, _⟩ := hw5
 obtain ⟨a6, rfl, rfl, rfl, w6⟩ := open_int Try.underlying53 (hval 6 53 v6 rfl rfl) h6
 obtain ⟨n6, b6, rfl⟩ := nat_u64 w6
 obtain ⟨l7, hl7, hb7, rfl⟩ := open_hash (hval 7 33 v7 rfl rfl) h7
 clear hA0 hval0
 refine (walk_hopTaken a0_0 (bounds_i64 wa0_0) a0_1 (bounds_i64 wa0_1) a0_2 (bounds_i64 wa0_2) a0_3 (bounds_i64 wa0_3) na0_4 ba0_4 na0_5 ba0_5 n1 b1 a2_0 (bounds_i64 wa2_0) a2_1 (bounds_i64 wa2_1) a2_2 (bounds_i64 wa2_2) na2_3 ba2_3 a2_4 (bounds_i64 wa2_4) a3_0 (bounds_i64 wa3_0) a3_1 (bounds_i64 wa3_1) a3_2 (bounds_i64 wa3_2) a3_3 (bounds_i64 wa3_3) a3_4 (bounds_i64 wa3_4) a4 (bounds_i64 w4) a5_0 (bounds_i64 wa5_0) a5_1 (bounds_i64 wa5_1) a5_2 (bounds_i64 wa5_2) n6 b6 l7 hl7 hb7 W).mono fun e W' ⟨he, bel⟩ => ?_
 subst he
 exact ⟨_, rfl, _, _, _, [], _, [], hW', trodAll_mk1 (shut_bool Try.underlying4 _), (trodAll_cons_mk (Below.trod laidOut (by kernel_rfl) (of_decide_eq_true (by kernel_rfl)) k0 bel lt0) (trodAll_cons_mk (Below.trod laidOut (by kernel_rfl) (of_decide_eq_true (by kernel_rfl)) k1 bel lt1) (trodAll_cons_mk (Below.trod laidOut (by kernel_rfl) (of_decide_eq_true (by kernel_rfl)) k2 bel lt2) (trodAll_cons_mk (Below.trod laidOut (by kernel_rfl) (of_decide_eq_true (by kernel_rfl)) k3 bel lt3) (trodAll_cons_mk (Below.trod laidOut (by kernel_rfl) (of_decide_eq_true (by kernel_rfl)) k4 bel lt4) (trodAll_cons_mk (Below.trod laidOut (by kernel_rfl) (of_decide_eq_true (by kernel_rfl)) k5 bel lt5) (trodAll_cons_mk (Below.trod laidOut (by kernel_rfl) (of_decide_eq_true (by kernel_rfl)) k6 bel lt6) (trodAll_cons_mk (Below.trod laidOut (by kernel_rfl) (of_decide_eq_true (by kernel_rfl)) k7 bel lt7) trodAll_mk0)))))))), rfl, Below.frame bel _, fun h => by cases h⟩

theorem over : Rows.hopTakenRow.holds Try.pinned (OpenSpec.ofChange Rows.hopTakenSpec) :=
 OpenClaim.holds_of_wide 13 Try.f13 rfl rfl rfl rfl rfl rfl rfl ⟨rfl, rfl, rfl, rfl, rfl⟩ rfl rfl rfl rfl rfl (by kernel_rfl) Try.func13 (by kernel_rfl)
  (of_decide_eq_true (by kernel_rfl)) (by unfold Func.isWrapper; first | (rw [if_pos (by decide +kernel)]; kernel_rfl) | (rw [if_neg (by decide +kernel)]; exact ⟨rfl, rfl⟩))
  (fun os started H enc _ => lifted os started H enc)

/-- The statement. -/
theorem proved : Rows.HopTakenSaid := over
#print axioms proved
end Go.Proofs.Ytcdmmfelagbpdaa.hopTaken
