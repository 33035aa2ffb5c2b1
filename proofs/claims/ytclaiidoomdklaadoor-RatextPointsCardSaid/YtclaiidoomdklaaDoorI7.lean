/-
  The document's numbers: DivMod, walked.
-/
import Derived.Test.YtclaiidoomdklaaDoorI6
namespace Go.Proofs.YtclaiidoomdklaaDoor
namespace I
open Go Go.RowKit Go.Proofs Pl
set_option linter.unusedVariables false

theorem ow_empty (W : World) (b : Nat) (hb : b = W.heap.size) : Ow (W.alloc (.cells #[] 3)) W.heap.size (.slice (some ⟨b, 0, none⟩) 0 0) [] := by
  subst hb
  exact made_own W 0 0 (by omega) (by decide)

end I
end Go.Proofs.YtclaiidoomdklaaDoor
