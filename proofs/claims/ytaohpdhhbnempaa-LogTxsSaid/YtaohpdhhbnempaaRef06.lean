/- Contracts of the reference of layer 6: it computes what Pd says. -/
import Derived.Test.YtaohpdhhbnempaaPoint2
namespace Go.Proofs.Ytaohpdhhbnempaa
open Go.RowKit Go.Lib Cfd Cpd Ckp
set_option linter.unusedVariables false

def padd' (a b : Nat) : Nat := (a + b) % 4611686018427377339