/- The reference's From: bit by bit it comes to the same. -/
import Derived.Test.YtebffdgghkomjaaDoorRef05
namespace Go.Proofs.YtebffdgghkomjaaDoor
open Go.RowKit Go.Lib Cfd Ckp
set_option linter.unusedVariables false
