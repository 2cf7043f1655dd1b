/- HopFees: the small case and the walk, by the symbolic machine. -/
import Derived.Test.YtcdmmfelagbpdaaHx1
import Derived.IntWalk
namespace Go.Proofs.Ytcdmmfelagbpdaa
open Go.RowKit Go.Lib Ckp Cfd Cpd Sx
set_option linter.unusedVariables false
set_option linter.unusedSimpArgs false
set_option maxRecDepth 100000
def I0 : Sx.Interp := ⟨fun _ _ _ _ _ => False, fun _ _ _ _ _ _ _ h => h⟩
theorem small33_calls (w : World) : Calls Try.prog 27 (List.toArray []) w fun e w' => e = .returned (.bool true) ∧ Fr (fun _ => False) w w' :=
  calls_real (I := I0) (sp33_ok I0 o33 rfl) (by kernel_rfl) [] Try.func27 (by kernel_rfl) rfl Try.ntmps27 (by decide)
    (Eq.mpr (by kernel_rfl : _ = (Value.bool true = Value.bool true)) rfl) w
def g_small33 (l : List Value) : Option (Bool × Value) := match l with
  | [] => some (true, .bool true)
  | _ => none
theorem ok_small33 (I : Sx.Interp) : Sx.SpecOK I Try.prog 27 (Sx.vspec g_small33) := by
  refine Sx.spec_of_calls Try.func27 (by kernel_rfl) (by kernel_rfl) ?_
  intro l v hg w
  unfold g_small33 at hg
  split at hg
  · simp only [Option.some.injEq, Prod.mk.injEq, true_and] at hg
    subst hg
    exact small33_calls w
  · cases hg
def sp33b (O : O33) (f : FuncId) : Option Sx.Spec := match f with
  | 27 => some (vspec g_small33)
  | f => sp33 O f
theorem sp33b_ok (I : Sx.Interp) (O : O33) (hO : O = o33) : ∀ f s, sp33b O f = some s → Sx.SpecOK I Try.prog f s := by
  intro f s h
  unfold sp33b at h
  split at h
  · cases h; exact ok_small33 I
  · exact sp33_ok I O hO _ s h
theorem wrap_in {x : Int} (h : -9223372036854775808 ≤ x ∧ x ≤ 9223372036854775807) : IntKind.i64.wrap x = x := IntWalk.i64_in _ h
theorem hpart_add {a c p : Int} (ha : (hpart a p).2 = true) (hc : (hpart c p).2 = true) (hs : (hpart (a + c) p).2 = true) :
    (hpart (a + c) p).1 = (hpart a p).1 + (hpart c p).1 ∨ (hpart (a + c) p).1 = (hpart a p).1 + (hpart c p).1 + 1 := by
  unfold hpart at ha hc hs ⊢
  split at ha
  · rename_i h1
    split at hc
    · rename_i h2
      split at hs
      · rename_i h3
        rw [if_pos h1, if_pos h2, if_pos h3]
        simp only
        rw [Int.add_mul]
        generalize a * p = x
        generalize c * p = y
        omega
      · cases hs
    · cases hc
  · cases ha
theorem hpart_pos {a p : Int} : 0 ≤ (hpart a p).1 ∧ (hpart a p).1 ≤ 1125899906842624 := by
  unfold hpart
  split
  · rename_i h
    exact ⟨Int.ediv_nonneg (Int.mul_nonneg h.1.1 h.2.1) (by omega), h.2.2⟩
  · simp
/-- A fee, where there is one. -/
theorem fee_some {b p d l m a : Int} (h : (hfee b p d l m a).2 = true) : (hpart a p).2 = true ∧ (hfee b p d l m a).1 = b + (hpart a p).1 ∧ 0 ≤ b ∧ b ≤ 1125899906842624 ∧ b + (hpart a p).1 ≤ 1125899906842624 := by
  unfold hfee at h ⊢
  split at h
  · rename_i hc
    rw [if_pos hc]
    unfold tadd at h ⊢
    split at h
    · rename_i h2; rw [if_pos h2]; exact ⟨hc.1, rfl, h2.1.1, h2.1.2, h2.2.2⟩
    · cases h
  · cases h
theorem fee_none {b p d l m a : Int} (h : (hfee b p d l m a).2 = false) : (hfee b p d l m a).1 = 0 := by
  unfold hfee at h ⊢
  split at h
  · rename_i hc
    rw [if_pos hc]
    unfold tadd at h ⊢
    split at h
    · cases h
    · rename_i h2; rw [if_neg h2]
  · rename_i hc; rw [if_neg hc]
theorem tadd_some {a c : Int} (h : (tadd a c).2 = true) : (tadd a c).1 = a + c := by
  unfold tadd at h ⊢
  split at h
  · rename_i hc; rw [if_pos hc]
  · cases h

theorem vc_fees (b p d l m a c : Int) (hp : p ≤ 9223372036854775807) :
    If (decide (p ≤ 9223372036854775807))
      (If (decide (p ≤ 9223372036854775807))
        (If (decide (p ≤ 9223372036854775807))
          (If (!(hfee b p d l m a).2)
            (If (hfee b p d l m a).2 (If (hfee b p d l m c).2 (Value.bool true = Value.bool true) (Value.bool ((hfee b p d l m c).1 == 0) = Value.bool true))
              (If ((hfee b p d l m a).1 == 0) (If (hfee b p d l m c).2 (Value.bool true = Value.bool true) (Value.bool ((hfee b p d l m c).1 == 0) = Value.bool true)) False))
            (If (!(hfee b p d l m c).2)
              (If (hfee b p d l m a).2 (If (hfee b p d l m c).2 (Value.bool true = Value.bool true) (Value.bool ((hfee b p d l m c).1 == 0) = Value.bool true))
                (If ((hfee b p d l m a).1 == 0) (If (hfee b p d l m c).2 (Value.bool true = Value.bool true) (Value.bool ((hfee b p d l m c).1 == 0) = Value.bool true)) False))
              (If (!(tadd a c).2)
                (If (hfee b p d l m a).2 (If (hfee b p d l m c).2 (Value.bool true = Value.bool true) (Value.bool ((hfee b p d l m c).1 == 0) = Value.bool true))
                  (If ((hfee b p d l m a).1 == 0) (If (hfee b p d l m c).2 (Value.bool true = Value.bool true) (Value.bool ((hfee b p d l m c).1 == 0) = Value.bool true)) False))
                (If (!(hfee b p d l m (tadd a c).fst).2)
                  (If (hfee b p d l m a).2 (If (hfee b p d l m c).2 (Value.bool true = Value.bool true) (Value.bool ((hfee b p d l m c).1 == 0) = Value.bool true))
                    (If ((hfee b p d l m a).1 == 0) (If (hfee b p d l m c).2 (Value.bool true = Value.bool true) (Value.bool ((hfee b p d l m c).1 == 0) = Value.bool true)) False))
                  (If (decide ((hfee b p d l m a).fst ≥ b))
                    (If (decide ((hfee b p d l m c).fst ≥ b))
                      (If (decide ((hfee b p d l m (tadd a c).fst).fst ≥ (hfee b p d l m a).fst))
                        (If (decide ((hfee b p d l m (tadd a c).fst).fst ≥ (hfee b p d l m c).fst))
                          (If
                            (IntKind.i64.wrap
                                (IntKind.i64.wrap (IntKind.i64.wrap ((hfee b p d l m (tadd a c).fst).1 - b) - IntKind.i64.wrap ((hfee b p d l m a).1 - b)) - IntKind.i64.wrap ((hfee b p d l m c).1 - b)) ==
                              0)
                            (Value.bool true = Value.bool true)
                            (Value.bool
                                (IntKind.i64.wrap
                                    (IntKind.i64.wrap (IntKind.i64.wrap ((hfee b p d l m (tadd a c).fst).1 - b) - IntKind.i64.wrap ((hfee b p d l m a).1 - b)) -
                                      IntKind.i64.wrap ((hfee b p d l m c).1 - b)) ==
                                  1) =
                              Value.bool true))
                          False)
                        False)
                      False)
                    False)))))
          False)
        False)
      False := by
  have n1 := fun h => fee_none (b := b) (p := p) (d := d) (l := l) (m := m) (a := a) h
  have n2 := fun h => fee_none (b := b) (p := p) (d := d) (l := l) (m := m) (a := c) h
  have key : (hfee b p d l m a).2 = true → (hfee b p d l m c).2 = true → (tadd a c).2 = true → (hfee b p d l m (tadd a c).1).2 = true →
      ∃ x y z : Int, (hfee b p d l m a).1 = b + x ∧ (hfee b p d l m c).1 = b + y ∧ (hfee b p d l m (tadd a c).1).1 = b + z ∧ 0 ≤ x ∧ 0 ≤ y ∧ 0 ≤ z ∧ 0 ≤ b ∧ b ≤ 1125899906842624 ∧ x ≤ 1125899906842624 ∧ y ≤ 1125899906842624 ∧ z ≤ 1125899906842624 ∧ (z = x + y ∨ z = x + y + 1) := by
    intro k1 k2 k3 k4
    obtain ⟨f1, f2, f3, f4, f5⟩ := fee_some k1
    obtain ⟨g1, g2, g3, g4, g5⟩ := fee_some k2
    obtain ⟨e1, e2, e3, e4, e5⟩ := fee_some k4
    have hs := tadd_some k3
    rw [hs] at e1
    have := hpart_add f1 g1 e1
    refine ⟨_, _, _, f2, g2, e2, hpart_pos.1, hpart_pos.1, hpart_pos.1, f3, f4, hpart_pos.2, hpart_pos.2, hpart_pos.2, ?_⟩
    rw [hs]; exact this
  generalize hfee b p d l m a = F at *
  generalize hfee b p d l m c = J at *
  generalize hfee b p d l m (tadd a c).1 = L at *
  generalize tadd a c = S at *
  obtain ⟨F1, F2⟩ := F
  obtain ⟨J1, J2⟩ := J
  obtain ⟨L1, L2⟩ := L
  obtain ⟨S1, S2⟩ := S
  simp only at n1 n2 key ⊢
  have hp' : decide (p ≤ 9223372036854775807) = true := decide_eq_true hp
  cases F2
  · have e1 := n1 rfl
    subst e1
    cases J2
    · have e2 := n2 rfl
      subst e2
      simp [If, hp']
    · simp [If, hp']
  · cases J2
    · have e2 := n2 rfl
      subst e2
      simp [If, hp']
    · cases S2
      · simp [If, hp']
      · cases L2
        · simp [If, hp']
        · obtain ⟨x, y, z, rfl, rfl, rfl, hx, hy, hz, hb, hb2, hx2, hy2, hz2, hor⟩ := key rfl rfl rfl rfl
          clear key n1 n2
          have w1 : IntKind.i64.wrap (b + z - b) = z := by rw [show b + z - b = z by omega]; exact wrap_in (by omega)
          have w2 : IntKind.i64.wrap (b + x - b) = x := by rw [show b + x - b = x by omega]; exact wrap_in (by omega)
          have w3 : IntKind.i64.wrap (b + y - b) = y := by rw [show b + y - b = y by omega]; exact wrap_in (by omega)
          have w4 : IntKind.i64.wrap (z - x) = z - x := wrap_in (by omega)
          have w5 : IntKind.i64.wrap (z - x - y) = z - x - y := wrap_in (by omega)
          have d1 : decide (b + x ≥ b) = true := decide_eq_true (by omega)
          have d2 : decide (b + y ≥ b) = true := decide_eq_true (by omega)
          have d3 : decide (b + z ≥ b + x) = true := decide_eq_true (by omega)
          have d4 : decide (b + z ≥ b + y) = true := decide_eq_true (by omega)
          rw [w1, w2, w3, w4, w5, d1, d2, d3, d4, hp']
          rcases hor with rfl | rfl
          · rw [show x + y - x - y = 0 by omega]; simp [If]
          · rw [show x + y + 1 - x - y = 1 by omega]; simp [If]
theorem walk_fees33c (b p d l m a c : Int) (hp : p ≤ 9223372036854775807) (w : World) : Calls Try.prog 9 (List.toArray [PV b p d l m, .int .i64 a, .int .i64 c]) w fun e w' => e = .returned (.bool true) ∧ Fr (fun _ => False) w w' :=
  calls_real (I := I0) (sp33b_ok I0 o33 rfl) (by kernel_rfl) [] Try.func9 (by kernel_rfl) rfl Try.ntmps9 (by simp)
    (Eq.mpr (by kernel_rfl) (vc_fees b p d l m a c hp)) w
abbrev I64 (a : Int) : Prop := -9223372036854775808 ≤ a ∧ a ≤ 9223372036854775807
theorem walk_fees33b (w : World) (b : Int) (hb : I64 b) (p : Int) (hp : I64 p) (d : Int) (hd : I64 d) (l : Int) (hl : I64 l) (m : Int) (hm : I64 m) (a c : Int) : Calls Try.prog 9 #[PV b p d l m, .int .i64 a, .int .i64 c] w fun e w' => e = .returned (.bool true) ∧ Kp w w' :=
  (walk_fees33c b p d l m a c hp.2 w).mono fun _ _ ⟨he, hf⟩ => ⟨he, fr_below hf⟩
end Go.Proofs.Ytcdmmfelagbpdaa
