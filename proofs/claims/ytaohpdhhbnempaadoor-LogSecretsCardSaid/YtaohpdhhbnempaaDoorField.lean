/- Contracts of package field: each function computes what Fd says. -/
import Derived.Test.YtaohpdhhbnempaaDoorRem
import Derived.Test.YtaohpdhhbnempaaDoorFd
import Derived.WalkSmall
namespace Go.Proofs.YtaohpdhhbnempaaDoor
open Go.RowKit Go.Lib Cfd
set_option linter.unusedVariables false
