/- HopTells, HopEnd, HopSafe: the walks, by the symbolic machine. -/
import Derived.Test.YtcdmmfelagbpdaaHx2
namespace Go.Proofs.Ytcdmmfelagbpdaa
open Go.RowKit Go.Lib Ckp Cfd Cpd Sx
set_option linter.unusedVariables false
set_option linter.unusedSimpArgs false
set_option maxRecDepth 100000
theorem vc_tells33 (O : O33) (b p d l m xf xi xa xe yf yi ya ye n c a e am h j r nap xq yq q bl : Int) (hp : decide (p ≤ 9223372036854775807) = true) (h1 : inU xq 18446744073709551616 = true) (h2 : inU yq 18446744073709551616 = true) (h3 : inU q 18446744073709551616 = true) (h4 : inU bl 18446744073709551616 = true) :
    If (decide (p ≤ 9223372036854775807))
      (If (decide (p ≤ 9223372036854775807))
        (If (inU q 18446744073709551616 && inU bl 18446744073709551616 && inU xq 18446744073709551616 && decide (p ≤ 9223372036854775807))
          (If (inU q 18446744073709551616 && inU bl 18446744073709551616 && inU xq 18446744073709551616 && decide (p ≤ 9223372036854775807))
            (If (O.hright b p d l m == O.hright b p d l m)
              (If ((O.hfee b p d l m am).1 == (O.hfee b p d l m am).1)
                (If ((O.hfee b p d l m am).2 == (O.hfee b p d l m am).2)
                  (If
                    (eqv
                      {
                        toList :=
                          [Value.int IntKind.i64 0, Value.int IntKind.i64 0, Value.int IntKind.i64 (bif (O.next n c a e q bl xa xe xq b p d l m h j r nap).1 then a else 0),
                            Value.int IntKind.u64 (bif (O.next n c a e q bl xa xe xq b p d l m h j r nap).1 then q else 0),
                            Value.int IntKind.i64 (bif (O.next n c a e q bl xa xe xq b p d l m h j r nap).1 then e else 0)] }
                      {
                        toList :=
                          [Value.int IntKind.i64 0, Value.int IntKind.i64 0, Value.int IntKind.i64 (bif (O.next n c a e q bl xa xe xq b p d l m h j r nap).1 then a else 0),
                            Value.int IntKind.u64 (bif (O.next n c a e q bl xa xe xq b p d l m h j r nap).1 then q else 0),
                            Value.int IntKind.i64 (bif (O.next n c a e q bl xa xe xq b p d l m h j r nap).1 then e else 0)] })
                    (If ((O.next n c a e q bl xa xe xq b p d l m h j r nap).2 == (O.next n c a e q bl xa xe xq b p d l m h j r nap).2)
                      (If (inU xq 18446744073709551616 && inU yq 18446744073709551616 && decide (p ≤ 9223372036854775807))
                        (If (inU xq 18446744073709551616 && inU yq 18446744073709551616 && decide (p ≤ 9223372036854775807))
                          (If (O.may xa xe xq ya ye yq b p d l m h j r nap == O.may xa xe xq ya ye yq b p d l m h j r nap)
                            (If (inU q 18446744073709551616 && inU bl 18446744073709551616 && inU xq 18446744073709551616)
                              (If (inU q 18446744073709551616 && inU bl 18446744073709551616 && inU xq 18446744073709551616)
                                (Value.bool (O.last n a e q bl xa xe xq h j r nap == O.last n a e q bl xa xe xq h j r nap) = Value.bool true) False)
                              False)
                            (Value.bool false = Value.bool true))
                          False)
                        False)
                      (Value.bool false = Value.bool true))
                    (Value.bool false = Value.bool true))
                  (Value.bool false = Value.bool true))
                (Value.bool false = Value.bool true))
              (Value.bool false = Value.bool true))
            False)
          False)
        False)
      False := by
  simp [If, hp, h1, h2, h3, h4, eqv, eqL]
theorem vc_end33 (O : O33) (xf xi xa xe n c a e h j r nap xq q bl s : Int) (h1 : inU xq 18446744073709551616 = true) (h2 : inU (O.pbase s) 18446744073709551616 = true) (h3 : inU bl 18446744073709551616 = true) (h4 : inU s 18446744073709551616 = true) (h5 : inU (O.back s bl) 18446744073709551616 = true)
    (hl : (O.last (-1) a e (O.pbase s) bl xa xe xq h j r nap = 1 ∨ O.last (-1) a e (O.pbase s) bl xa xe xq h j r nap = 23 ∨ O.last (-1) a e (O.pbase s) bl xa xe xq h j r nap = 13 ∨ O.last (-1) a e (O.pbase s) bl xa xe xq h j r nap = 16) ∨
      (O.last (-1) a e (O.pbase s) bl xa xe xq h j r nap = 0 ∧ O.shows xq (O.back s bl) = true ∧ a ≤ xa ∧ e ≤ xe ∧ nap < xe - h ∧ (0 ≤ h ∧ h ≤ 1048576) ∧ (0 ≤ nap ∧ nap ≤ 1000))) :
    If (inU s 18446744073709551616)
      (If (inU (O.pbase s) 18446744073709551616 && inU bl 18446744073709551616 && inU xq 18446744073709551616)
        (If (O.last (-1) a e (O.pbase s) bl xa xe xq h j r nap != 0)
          (If (O.last (-1) a e (O.pbase s) bl xa xe xq h j r nap == 1) (Value.bool true = Value.bool true)
            (If (O.last (-1) a e (O.pbase s) bl xa xe xq h j r nap == 23) (Value.bool true = Value.bool true)
              (If (O.last (-1) a e (O.pbase s) bl xa xe xq h j r nap == 13) (Value.bool true = Value.bool true) (Value.bool (O.last (-1) a e (O.pbase s) bl xa xe xq h j r nap == 16) = Value.bool true))))
          (If (decide (xa ≥ a))
            (If (decide (xe ≥ e))
              (If (decide (xe > IntKind.i64.wrap (h + nap)))
                (If (inU s 18446744073709551616 && inU bl 18446744073709551616)
                  (If (inU xq 18446744073709551616 && inU (O.back s bl) 18446744073709551616) (Value.bool (O.shows xq (O.back s bl)) = Value.bool true) False) False)
                (Value.bool false = Value.bool true))
              (Value.bool false = Value.bool true))
            (Value.bool false = Value.bool true)))
        False)
      False := by
  rcases hl with h | ⟨l0, l1, l2, l3, l4, l5, l6⟩
  · generalize O.last (-1) a e (O.pbase s) bl xa xe xq _ j r nap = L at *
    rcases h with rfl | rfl | rfl | rfl <;> simp [If, h1, h2, h3, h4, h5]
  · have w : IntKind.i64.wrap (h + nap) = h + nap := wrap_in (by omega)
    have l7 : h + nap < xe := by omega
    simp [If, w, l0, l1, l2, l3, l7, h1, h2, h3, h4, h5]
theorem vc_safe33 (O : O33) (b p d l m xf xi xa xe n c a e h j r nap xq q bl s : Int) (hp : decide (p ≤ 9223372036854775807) = true) (h1 : inU xq 18446744073709551616 = true) (h2 : inU (O.pbase s) 18446744073709551616 = true) (h3 : inU bl 18446744073709551616 = true) (h4 : inU s 18446744073709551616 = true) (h5 : inU (O.back s bl) 18446744073709551616 = true)
    (hl : ((O.next n c a e (O.pbase s) bl xa xe xq b p d l m h j r nap).1 = false ∧ ¬ (O.next n c a e (O.pbase s) bl xa xe xq b p d l m h j r nap).2 = 0) ∨
      ((O.next n c a e (O.pbase s) bl xa xe xq b p d l m h j r nap).1 = true ∧ (O.next n c a e (O.pbase s) bl xa xe xq b p d l m h j r nap).2 = 0 ∧ O.shows xq (O.back s bl) = true ∧ O.may xa xe xq a e (O.pbase s) b p d l m h j r nap = 0 ∧
       (O.hfee b p d l m a).2 = true ∧ (O.hfee b p d l m a).1 ≤ xa - a ∧ 0 ≤ (O.hfee b p d l m a).1 ∧ d ≤ xe - e ∧ nap < e - h ∧ (1 ≤ xa ∧ xa ≤ 1125899906842624) ∧ (1 ≤ xe ∧ xe ≤ 1048576) ∧ (1 ≤ a ∧ a ≤ 1125899906842624) ∧ (1 ≤ e ∧ e ≤ 1048576) ∧ (0 ≤ h ∧ h ≤ 1048576))) :
    If (inU s 18446744073709551616)
      (If (inU (O.pbase s) 18446744073709551616 && inU bl 18446744073709551616 && inU xq 18446744073709551616 && decide (p ≤ 9223372036854775807))
        (If ((O.next n c a e (O.pbase s) bl xa xe xq b p d l m h j r nap).2 != 0)
          (Value.bool
              (eqv
                {
                  toList :=
                    [Value.int IntKind.i64 0, Value.int IntKind.i64 0, Value.int IntKind.i64 (bif (O.next n c a e (O.pbase s) bl xa xe xq b p d l m h j r nap).1 then a else 0),
                      Value.int IntKind.u64 (bif (O.next n c a e (O.pbase s) bl xa xe xq b p d l m h j r nap).1 then O.pbase s else 0),
                      Value.int IntKind.i64 (bif (O.next n c a e (O.pbase s) bl xa xe xq b p d l m h j r nap).1 then e else 0)] }
                { toList := [Value.int IntKind.i64 0, Value.int IntKind.i64 0, Value.int IntKind.i64 0, Value.int IntKind.u64 0, Value.int IntKind.i64 0] }) =
            Value.bool true)
          (If (decide (p ≤ 9223372036854775807))
            (If (O.hfee b p d l m (bif (O.next n c a e (O.pbase s) bl xa xe xq b p d l m h j r nap).fst then a else 0)).2
              (If ((bif (O.next n c a e (O.pbase s) bl xa xe xq b p d l m h j r nap).1 then a else 0) == a)
                (If ((bif (O.next n c a e (O.pbase s) bl xa xe xq b p d l m h j r nap).1 then e else 0) == e)
                  (If ((bif (O.next n c a e (O.pbase s) bl xa xe xq b p d l m h j r nap).1 then O.pbase s else 0) == O.pbase s)
                    (If
                      (decide
                        (IntKind.i64.wrap (xa - bif (O.next n c a e (O.pbase s) bl xa xe xq b p d l m h j r nap).fst then a else 0) ≥
                          (O.hfee b p d l m (bif (O.next n c a e (O.pbase s) bl xa xe xq b p d l m h j r nap).fst then a else 0)).fst))
                      (If (decide ((O.hfee b p d l m (bif (O.next n c a e (O.pbase s) bl xa xe xq b p d l m h j r nap).fst then a else 0)).fst ≥ 0))
                        (If (decide (IntKind.i64.wrap (xe - bif (O.next n c a e (O.pbase s) bl xa xe xq b p d l m h j r nap).fst then e else 0) ≥ d))
                          (If (decide (IntKind.i64.wrap ((bif (O.next n c a e (O.pbase s) bl xa xe xq b p d l m h j r nap).fst then e else 0) - h) > nap))
                            (If (inU s 18446744073709551616 && inU bl 18446744073709551616)
                              (If (inU xq 18446744073709551616 && inU (O.back s bl) 18446744073709551616)
                                (If (O.shows xq (O.back s bl))
                                  (If
                                    (inU xq 18446744073709551616 && inU (bif (O.next n c a e (O.pbase s) bl xa xe xq b p d l m h j r nap).1 then O.pbase s else 0) 18446744073709551616 &&
                                      decide (p ≤ 9223372036854775807))
                                    (Value.bool
                                        (O.may xa xe xq (bif (O.next n c a e (O.pbase s) bl xa xe xq b p d l m h j r nap).1 then a else 0)
                                            (bif (O.next n c a e (O.pbase s) bl xa xe xq b p d l m h j r nap).1 then e else 0)
                                            (bif (O.next n c a e (O.pbase s) bl xa xe xq b p d l m h j r nap).1 then O.pbase s else 0) b p d l m h j r nap ==
                                          0) =
                                      Value.bool true)
                                    False)
                                  (Value.bool false = Value.bool true))
                                False)
                              False)
                            (Value.bool false = Value.bool true))
                          (Value.bool false = Value.bool true))
                        (Value.bool false = Value.bool true))
                      (Value.bool false = Value.bool true))
                    (Value.bool false = Value.bool true))
                  (Value.bool false = Value.bool true))
                (Value.bool false = Value.bool true))
              (Value.bool false = Value.bool true))
            False))
        False)
      False := by
  rcases hl with ⟨k1, k2⟩ | ⟨k1, k2, k3, k4, k5, k6, k7, k8, k9, k10, k11, k12, k13, k14⟩
  · generalize O.next n c a e (O.pbase s) bl xa xe xq b p d l m h j r nap = X at *
    obtain ⟨X1, X2⟩ := X
    simp only at k1 k2
    subst k1
    have k3 : (X2 != 0) = true := by simpa using k2
    simp [If, h1, h2, h3, h4, h5, hp, k3, eqv, eqL]
  · generalize O.next n c a e (O.pbase s) bl xa xe xq b p d l m h j r nap = X at *
    obtain ⟨X1, X2⟩ := X
    simp only at k1 k2
    subst k1 k2
    simp only [cond_true]
    have w1 : IntKind.i64.wrap (xa - a) = xa - a := wrap_in (by omega)
    have w2 : IntKind.i64.wrap (xe - e) = xe - e := wrap_in (by omega)
    have w3 : IntKind.i64.wrap (e - h) = e - h := wrap_in (by omega)
    simp [If, w1, w2, w3, k3, k4, k5, k6, k7, k8, k9, h1, h2, h3, h4, h5, hp]
theorem vcx_tells33 (O : O33) (b p d l m xf xi xa xe yf yi ya ye n c a e am h j r nap xq yq q bl : Int) (hp : decide (p ≤ 9223372036854775807) = true) (h1 : inU xq 18446744073709551616 = true) (h2 : inU yq 18446744073709551616 = true) (h3 : inU q 18446744073709551616 = true) (h4 : inU bl 18446744073709551616 = true) : wpc Try.prog (sp33b O) Try.f8.ntmps []  (bodyOf Try.f8) 0 0 (argEnv [PV b p d l m, .agg ⟨[.int .i64 xf, .int .i64 xi, .int .i64 xa, .int .u64 xq, .int .i64 xe]⟩, .agg ⟨[.int .i64 yf, .int .i64 yi, .int .i64 ya, .int .u64 yq, .int .i64 ye]⟩, .agg ⟨[.int .i64 n, .int .i64 c, .int .i64 a, .int .i64 e, .int .u64 q, .int .u64 bl]⟩, .int .i64 am, .int .i64 h, BV j r nap] 0) [] (retK Try.prog Try.f8.results.toList (.bool true)) :=
  Eq.mpr (by kernel_rfl) (vc_tells33 O b p d l m xf xi xa xe yf yi ya ye n c a e am h j r nap xq yq q bl hp h1 h2 h3 h4)
theorem vcx_end33 (O : O33) (xf xi xa xe n c a e h j r nap xq q bl s : Int) (h1 : inU xq 18446744073709551616 = true) (h2 : inU (O.pbase s) 18446744073709551616 = true) (h3 : inU bl 18446744073709551616 = true) (h4 : inU s 18446744073709551616 = true) (h5 : inU (O.back s bl) 18446744073709551616 = true) (hl : (O.last (-1) a e (O.pbase s) bl xa xe xq h j r nap = 1 ∨ O.last (-1) a e (O.pbase s) bl xa xe xq h j r nap = 23 ∨ O.last (-1) a e (O.pbase s) bl xa xe xq h j r nap = 13 ∨ O.last (-1) a e (O.pbase s) bl xa xe xq h j r nap = 16) ∨
      (O.last (-1) a e (O.pbase s) bl xa xe xq h j r nap = 0 ∧ O.shows xq (O.back s bl) = true ∧ a ≤ xa ∧ e ≤ xe ∧ nap < xe - h ∧ (0 ≤ h ∧ h ≤ 1048576) ∧ (0 ≤ nap ∧ nap ≤ 1000))) : wpc Try.prog (sp33b O) Try.f12.ntmps []  (bodyOf Try.f12) 0 0 (argEnv [.agg ⟨[.int .i64 n, .int .i64 c, .int .i64 a, .int .i64 e, .int .u64 q, .int .u64 bl]⟩, .agg ⟨[.int .i64 xf, .int .i64 xi, .int .i64 xa, .int .u64 xq, .int .i64 xe]⟩, .int .i64 h, BV j r nap, .int .u64 s] 0) [] (retK Try.prog Try.f12.results.toList (.bool true)) :=
  Eq.mpr (by kernel_rfl) (vc_end33 O xf xi xa xe n c a e h j r nap xq q bl s h1 h2 h3 h4 h5 hl)
theorem vcx_safe33 (O : O33) (b p d l m xf xi xa xe n c a e h j r nap xq q bl s : Int) (hp : decide (p ≤ 9223372036854775807) = true) (h1 : inU xq 18446744073709551616 = true) (h2 : inU (O.pbase s) 18446744073709551616 = true) (h3 : inU bl 18446744073709551616 = true) (h4 : inU s 18446744073709551616 = true) (h5 : inU (O.back s bl) 18446744073709551616 = true) (hl : ((O.next n c a e (O.pbase s) bl xa xe xq b p d l m h j r nap).1 = false ∧ ¬ (O.next n c a e (O.pbase s) bl xa xe xq b p d l m h j r nap).2 = 0) ∨
      ((O.next n c a e (O.pbase s) bl xa xe xq b p d l m h j r nap).1 = true ∧ (O.next n c a e (O.pbase s) bl xa xe xq b p d l m h j r nap).2 = 0 ∧ O.shows xq (O.back s bl) = true ∧ O.may xa xe xq a e (O.pbase s) b p d l m h j r nap = 0 ∧
       (O.hfee b p d l m a).2 = true ∧ (O.hfee b p d l m a).1 ≤ xa - a ∧ 0 ≤ (O.hfee b p d l m a).1 ∧ d ≤ xe - e ∧ nap < e - h ∧ (1 ≤ xa ∧ xa ≤ 1125899906842624) ∧ (1 ≤ xe ∧ xe ≤ 1048576) ∧ (1 ≤ a ∧ a ≤ 1125899906842624) ∧ (1 ≤ e ∧ e ≤ 1048576) ∧ (0 ≤ h ∧ h ≤ 1048576))) : wpc Try.prog (sp33b O) Try.f11.ntmps []  (bodyOf Try.f11) 0 0 (argEnv [.agg ⟨[.int .i64 n, .int .i64 c, .int .i64 a, .int .i64 e, .int .u64 q, .int .u64 bl]⟩, .int .u64 s, .agg ⟨[.int .i64 xf, .int .i64 xi, .int .i64 xa, .int .u64 xq, .int .i64 xe]⟩, PV b p d l m, .int .i64 h, BV j r nap] 0) [] (retK Try.prog Try.f11.results.toList (.bool true)) :=
  Eq.mpr (by kernel_rfl) (vc_safe33 O b p d l m xf xi xa xe n c a e h j r nap xq q bl s hp h1 h2 h3 h4 h5 hl)
theorem inU_pbase (k : Int) : inU (o33.pbase k) 18446744073709551616 = true := inU_of (Nat.lt_trans (pbase_lt _) (by decide))
theorem inU_back (s t : Int) : inU (o33.back s t) 18446744073709551616 = true := inU_of (Nat.lt_trans (fadd_lt _ _) (by decide))
theorem walk_tells33b (w : World) (b : Int) (hb : I64 b) (p : Int) (hp : I64 p) (d : Int) (hd : I64 d) (l : Int) (hl : I64 l) (m : Int) (hm : I64 m) (xf xi xa : Int) (xq : Nat) (hxq : xq < 18446744073709551616) (xe yf yi ya : Int) (yq : Nat) (hyq : yq < 18446744073709551616) (ye n c a e : Int) (q : Nat) (hq : q < 18446744073709551616) (bl : Nat) (hbl : bl < 18446744073709551616) (am h j r nap : Int) :
    Calls Try.prog 8 #[PV b p d l m, QV xf xi xa xq xe, QV yf yi ya yq ye, HV n c a e q bl, .int .i64 am, .int .i64 h, BV j r nap] w fun e w' => e = .returned (.bool true) ∧ Kp w w' :=
  (calls_real (I := I0) (sp33b_ok I0 o33 rfl) (by kernel_rfl) [] (l := [PV b p d l m, QV xf xi xa xq xe, QV yf yi ya yq ye, HV n c a e q bl, .int .i64 am, .int .i64 h, BV j r nap]) Try.func8 (by kernel_rfl) rfl Try.ntmps8 (by simp)
    (vcx_tells33 o33 b p d l m xf xi xa xe yf yi ya ye n c a e am h j r nap xq yq q bl (decide_eq_true hp.2) (inU_of hxq) (inU_of hyq) (inU_of hq) (inU_of hbl)) w).mono fun _ _ ⟨he, hf⟩ => ⟨he, fr_below hf⟩
theorem walk_end33 (w : World) (n c a e : Int) (q : Nat) (hq : q < 18446744073709551616) (bl : Nat) (hbl : bl < 18446744073709551616) (xf xi xa : Int) (xq : Nat) (hxq : xq < 18446744073709551616) (xe h j r nap : Int) (s : Nat) (hs : s < 18446744073709551616) :
    Calls Try.prog 12 #[HV n c a e q bl, QV xf xi xa xq xe, .int .i64 h, BV j r nap, .int .u64 (s : Int)] w fun e w' => e = .returned (.bool true) ∧ Kp w w' :=
  (calls_real (I := I0) (sp33b_ok I0 o33 rfl) (by kernel_rfl) [] (l := [HV n c a e q bl, QV xf xi xa xq xe, .int .i64 h, BV j r nap, .int .u64 (s : Int)]) Try.func12 (by kernel_rfl) rfl Try.ntmps12 (by simp)
    (vcx_end33 o33 xf xi xa xe n c a e h j r nap xq q bl s (inU_of hxq) (inU_pbase _) (inU_of hbl) (inU_of hs) (inU_back _ _) (by
      rcases last_cases (-1) a e (pbase s) bl xa xe xq h j r nap with k | ⟨k1, k2, k3, k4, k5, k6, k7⟩
      · exact .inl k
      · refine .inr ⟨k1, ?_, k3, k4, k5, k6, k7⟩
        subst k2
        exact shows_back s bl)) w).mono fun _ _ ⟨he, hf⟩ => ⟨he, fr_below hf⟩
theorem walk_safe33 (w : World) (n c a e : Int) (q : Nat) (hq : q < 18446744073709551616) (bl : Nat) (hbl : bl < 18446744073709551616) (s : Nat) (hs : s < 18446744073709551616) (xf xi xa : Int) (xq : Nat) (hxq : xq < 18446744073709551616) (xe : Int) (b : Int) (hb : I64 b) (p : Int) (hp : I64 p) (d : Int) (hd : I64 d) (l : Int) (hl : I64 l) (m : Int) (hm : I64 m) (h j r nap : Int) :
    Calls Try.prog 11 #[HV n c a e q bl, .int .u64 (s : Int), QV xf xi xa xq xe, PV b p d l m, .int .i64 h, BV j r nap] w fun e w' => e = .returned (.bool true) ∧ Kp w w' :=
  (calls_real (I := I0) (sp33b_ok I0 o33 rfl) (by kernel_rfl) [] (l := [HV n c a e q bl, .int .u64 (s : Int), QV xf xi xa xq xe, PV b p d l m, .int .i64 h, BV j r nap]) Try.func11 (by kernel_rfl) rfl Try.ntmps11 (by simp)
    (vcx_safe33 o33 b p d l m xf xi xa xe n c a e h j r nap xq q bl s (decide_eq_true hp.2) (inU_of hxq) (inU_pbase _) (inU_of hbl) (inU_of hs) (inU_back _ _) (by
      by_cases k : (next n c a e (pbase s) bl xa xe xq b p d l m h j r nap).2 = 0
      · obtain ⟨k1, k2, k3⟩ := next_yes k
        obtain ⟨m1, m2, m3, m4, m5, m6, m7, m8, m9, m10, m11, m12⟩ := may_ok k3
        refine .inr ⟨k1, k, ?_, k3, m1, m2, m3, m4, m5, m7, m8, m9, m10, m11⟩
        subst k2
        exact shows_back s bl
      · exact .inl ⟨next_no k, k⟩)) w).mono fun _ _ ⟨he, hf⟩ => ⟨he, fr_below hf⟩
end Go.Proofs.Ytcdmmfelagbpdaa
