/- Contracts of package point, which make memory: Add, Neg, Sub, Scale, Base. -/
import Derived.Test.YtaohpdhhbnempaaPoint
namespace Go.Proofs.Ytaohpdhhbnempaa
open Go.RowKit Go.Lib Cfd Cpd Ckp
set_option linter.unusedVariables false
