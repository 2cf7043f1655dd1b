/- Contracts of package field: each function computes what Fd says. -/
import Derived.Test.YtebffdgghkomjaaDoorRem
import Derived.Test.YtebffdgghkomjaaDoorFd
import Derived.WalkSmall
namespace Go.Proofs.YtebffdgghkomjaaDoor
open Go.RowKit Go.Lib Cfd
set_option linter.unusedVariables false
