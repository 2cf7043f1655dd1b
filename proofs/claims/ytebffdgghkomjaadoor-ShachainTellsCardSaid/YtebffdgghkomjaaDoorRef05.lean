/- Contracts of the reference of layer 5: it computes what Fd says. -/
import Derived.Test.YtebffdgghkomjaaDoorFrom
namespace Go.Proofs.YtebffdgghkomjaaDoor
open Go.RowKit Go.Lib Cfd Ckp
set_option linter.unusedVariables false
