/- The reference's From: bit by bit it comes to the same. -/
import Derived.Test.YtaohpdhhbnempaaRef05
namespace Go.Proofs.Ytaohpdhhbnempaa
open Go.RowKit Go.Lib Cfd Ckp
set_option linter.unusedVariables false
