/-
  The document's whole numbers: Add, Sub, Mul, Cmp.
-/
import Derived.Test.YtclaiidoomdklaaDoorY1
namespace Go.Proofs.YtclaiidoomdklaaDoor
namespace I
open Go Go.RowKit Go.Proofs Pl
set_option linter.unusedVariables false

end I
end Go.Proofs.YtclaiidoomdklaaDoor
