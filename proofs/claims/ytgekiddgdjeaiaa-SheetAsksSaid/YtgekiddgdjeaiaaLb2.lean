/- Sheet: a law called. -/
import Derived.Test.YtgekiddgdjeaiaaLb
import Derived.Test.YtgekiddgdjeaiaaShA
namespace Go.Proofs.Ytgekiddgdjeaiaa
open Go.ChangeShapes Go.WideShapes Go.RowKit Go.Lib Ckp Cfd Cpd Sx
set_option linter.unusedVariables false
set_option linter.unusedSimpArgs false
set_option maxRecDepth 1000000
theorem walk_sasks (w : World) (c : List Int) (hl : c.length = chK.length) (hw : wfs chK c) (no h0 h1 rt : Int) (a_l : Option Addr) (len_l cap_l : Nat) (z_l : List (List Int)) (hr : IsRowS KCl w a_l len_l cap_l z_l) (hs : ∀ x, a_l = some x → x.spot = none ∧ x.block < w.heap.size) (f i a : Int) (q : Nat) (hq : q < 18446744073709551616) (e : Int) :
  Calls Try.prog 4 #[.agg (zipV chK c).toArray, .agg #[.int .i64 no, .int .i64 h0, .int .i64 h1, .slice a_l len_l cap_l, .int .i64 rt], .agg #[.int .i64 f, .int .i64 i, .int .i64 a, .int .u64 q, .int .i64 e]] w fun e w' => e = .returned (.bool true) ∧ Kp w w' := by
 have hc := chB_zip hl hw
 have hn := nl_len hr
 have hd := nl_cnd hr
 have ik := inU_of hq
 generalize hC : (zipV chK c).toArray = C at *
 by_cases f0 : f = 0
 ·subst f0
  exact calls_st (ok_sasks0 I0 oo rfl (yO oo) rfl) hr hs (xs := [.v (.agg C), .agg [.v (.int .i64 no), .v (.int .i64 h0), .v (.int .i64 h1), .row 0, .v (.int .i64 rt)], .v (.agg ⟨[.int .i64 0, .int .i64 i, .int .i64 a, .int .u64 q, .int .i64 e]⟩)]) rfl (hp := rfl) rfl (by
   unfold g_sasks0
   simp only [hc, hn, hd, ik, Bool.and_self])
 ·by_cases f1 : f = 1
  ·subst f1
   exact calls_st (ok_sasks1 I0 oo rfl (yO oo) rfl) hr hs (xs := [.v (.agg C), .agg [.v (.int .i64 no), .v (.int .i64 h0), .v (.int .i64 h1), .row 0, .v (.int .i64 rt)], .v (.agg ⟨[.int .i64 1, .int .i64 i, .int .i64 a, .int .u64 q, .int .i64 e]⟩)]) rfl (hp := rfl) rfl (by
    unfold g_sasks1
    simp only [hc, hn, hd, ik, Bool.and_self])
  ·have hX : (!(allW 0 1 [f])) = true := by
    cases h : allW 0 1 [f] with
    | false => rfl
    | true => have := allW_one.1 h; omega
   exact calls_st (ok_sasksX I0 oo rfl (yO oo) rfl) hr hs (xs := [.v (.agg C), .agg [.v (.int .i64 no), .v (.int .i64 h0), .v (.int .i64 h1), .row 0, .v (.int .i64 rt)], .v (.agg ⟨[.int .i64 f, .int .i64 i, .int .i64 a, .int .u64 q, .int .i64 e]⟩)]) rfl (hp := rfl) rfl (by
    unfold g_sasksX
    simp only [hc, hn, hd, ik, hX, Bool.and_self])
end Go.Proofs.Ytgekiddgdjeaiaa
