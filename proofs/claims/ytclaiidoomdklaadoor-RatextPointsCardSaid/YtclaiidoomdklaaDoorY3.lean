/-
  The document's whole numbers: Small, Same, Copy, Text.
-/
import Derived.Test.YtclaiidoomdklaaDoorY2
import Derived.Test.YtclaiidoomdklaaDoorZ5
import Derived.Test.YtclaiidoomdklaaDoorZ7
import Derived.Test.YtclaiidoomdklaaDoorI16
namespace Go.Proofs.YtclaiidoomdklaaDoor
namespace I
open Go Go.RowKit Go.Proofs Pl
set_option linter.unusedVariables false

theorem one_dn (w : World) : Dn (w.alloc (.cells #[.int .i64 1] 3)) 1 (.slice (some ⟨w.heap.size, 0, none⟩) 1 1) 1 := by
  exact lit_dn w (x := 1) (L := 1) (by rw [TB_eq]; decide) (by decide) (Nat.le_refl _)
end I
end Go.Proofs.YtclaiidoomdklaaDoor
