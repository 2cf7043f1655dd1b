/- Sheet: a law called. -/
import Derived.Test.YtgekiddgdjeaiaaLb
import Derived.Test.YtgekiddgdjeaiaaShD
namespace Go.Proofs.Ytgekiddgdjeaiaa
open Go.ChangeShapes Go.WideShapes Go.RowKit Go.Lib Ckp Cfd Cpd Sx
set_option linter.unusedVariables false
set_option linter.unusedSimpArgs false
set_option maxRecDepth 1000000
theorem walk_sturns (w : World) (c : List Int) (hl : c.length = chK.length) (hw : wfs chK c) (no h0 h1 rt : Int) (a_l : Option Addr) (len_l cap_l : Nat) (z_l : List (List Int)) (hr : IsRowS KCl w a_l len_l cap_l z_l) (hs : ∀ x, a_l = some x → x.spot = none ∧ x.block < w.heap.size) (d f i a : Int) (q : Nat) (hq : q < 18446744073709551616) (e : Int) (k : Nat) (hk : k < 18446744073709551616) (r : Int) (d' f' i' a' : Int) (q' : Nat) (hq' : q' < 18446744073709551616) (e' : Int) (k' : Nat) (hk' : k' < 18446744073709551616) (r' : Int) :
  Calls Try.prog 7 #[.agg (zipV chK c).toArray, .agg #[.int .i64 no, .int .i64 h0, .int .i64 h1, .slice a_l len_l cap_l, .int .i64 rt], .agg #[.int .i64 d, .int .i64 f, .int .i64 i, .int .i64 a, .int .u64 q, .int .i64 e, .int .u64 k, .int .i64 r], .agg #[.int .i64 d', .int .i64 f', .int .i64 i', .int .i64 a', .int .u64 q', .int .i64 e', .int .u64 k', .int .i64 r']] w fun e w' => e = .returned (.bool true) ∧ Kp w w' := by
 have hc := chB_zip hl hw
 have hn := nl_len hr
 have hd := nl_cnd hr
 have iq := inU_of hq
 have ik := inU_of hk
 have iq' := inU_of hq'
 have ik' := inU_of hk'
 generalize hC : (zipV chK c).toArray = C at *
 exact calls_st (ok_sturns I0 oo rfl (yO oo) rfl) hr hs (xs := [.v (.agg C), .agg [.v (.int .i64 no), .v (.int .i64 h0), .v (.int .i64 h1), .row 0, .v (.int .i64 rt)], .v (.agg ⟨[.int .i64 d, .int .i64 f, .int .i64 i, .int .i64 a, .int .u64 q, .int .i64 e, .int .u64 k, .int .i64 r]⟩), .v (.agg ⟨[.int .i64 d', .int .i64 f', .int .i64 i', .int .i64 a', .int .u64 q', .int .i64 e', .int .u64 k', .int .i64 r']⟩)]) rfl (hp := rfl) rfl (by
  unfold g_sturns
  simp only [hc, hn, hd, iq, ik, iq', ik', Bool.and_self])
end Go.Proofs.Ytgekiddgdjeaiaa
