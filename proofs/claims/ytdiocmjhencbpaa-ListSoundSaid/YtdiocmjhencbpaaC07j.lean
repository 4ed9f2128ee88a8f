/-
  The search tree over any pages: Delete, Move.
-/
import Derived.Test.YtdiocmjhencbpaaC07i
namespace Go.Proofs.Ytdiocmjhencbpaa
set_option maxRecDepth 8000
set_option linter.unusedSimpArgs false
set_option linter.unusedVariables false
open Go Xe
end Go.Proofs.Ytdiocmjhencbpaa
