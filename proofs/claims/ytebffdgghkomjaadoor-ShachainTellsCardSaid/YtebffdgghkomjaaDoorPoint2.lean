/- Contracts of package point, which make memory: Add, Neg, Sub, Scale, Base. -/
import Derived.Test.YtebffdgghkomjaaDoorPoint
namespace Go.Proofs.YtebffdgghkomjaaDoor
open Go.RowKit Go.Lib Cfd Cpd Ckp
set_option linter.unusedVariables false
