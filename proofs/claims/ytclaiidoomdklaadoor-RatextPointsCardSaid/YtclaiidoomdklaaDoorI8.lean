/-
  The document's numbers: Gcd, value; a number that is told by words.
-/
import Derived.Test.YtclaiidoomdklaaDoorI7
import Derived.Deep.RegionHeld3
import Derived.Deep.LoopGhost
namespace Go.Proofs.YtclaiidoomdklaaDoor
namespace I
open Go Go.RowKit Go.Proofs Pl
set_option linter.unusedVariables false


end I
end Go.Proofs.YtclaiidoomdklaaDoor
