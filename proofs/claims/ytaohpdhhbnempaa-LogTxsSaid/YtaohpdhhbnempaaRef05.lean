/- Contracts of the reference of layer 5: it computes what Fd says. -/
import Derived.Test.YtaohpdhhbnempaaFrom
namespace Go.Proofs.Ytaohpdhhbnempaa
open Go.RowKit Go.Lib Cfd Ckp
set_option linter.unusedVariables false
