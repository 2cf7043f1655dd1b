/- Sheet: a law's arguments: a channel, a state (with its slice of conditions), and the call of a law whose contract is one of patterns. -/
import Derived.Test.YtcdmmfelagbpdaaGreatRowS
import Derived.Test.YtcdmmfelagbpdaaGreatSh7
import Derived.Deep.Slices
namespace Go.Proofs.YtcdmmfelagbpdaaGreat
open Go.ChangeShapes Go.WideShapes Go.RowKit Go.Lib Ckp Cfd Cpd Sx
set_option linter.unusedVariables false
set_option linter.unusedSimpArgs false
set_option maxRecDepth 1000000
theorem chk_zip : ∀ (ks : List IntKind) (zs : List Int), zs.length = ks.length → wfs ks zs → chkL ks (zipV ks zs) = true
 | [], [], _, _ => rfl
 | k :: ks, z :: zs, hl, hw => by
  have ih := chk_zip ks zs (by simpa using hl) hw.2
  have h1 := hw.1
  show (decide (k = k) && (bif decide (k = .u64) then inU z 18446744073709551616 else bif decide (k = .i64) then iLe (-9223372036854775808) z && iLe z 9223372036854775807 else true) && chkL ks (zipV ks zs)) = true
  rw [ih, decide_eq_true rfl]
  by_cases hu : k = .u64
  ·subst hu
   obtain ⟨n, b, rfl⟩ := nat_u64 h1
   simp only [decide_true, cond_true, inU_of b, Bool.and_self]
  ·by_cases hi : k = .i64
   ·subst hi
    have := bounds_i64 h1
    simp only [show decide (IntKind.i64 = .u64) = false from rfl, decide_true, cond_true, cond_false]
    simp only [Bool.and_eq_true, Sx.Bz, Sx.Cont.n, Bool.true_and, Bool.and_true]; exact this
   ·simp [hu, hi]
theorem chB_zip {zs : List Int} (hl : zs.length = chK.length) (hw : wfs chK zs) : chB (zipV chK zs).toArray = true := chk_zip chK zs hl hw
end Go.Proofs.YtcdmmfelagbpdaaGreat
