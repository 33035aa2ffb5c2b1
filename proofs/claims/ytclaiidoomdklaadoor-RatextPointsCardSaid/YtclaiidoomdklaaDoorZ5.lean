/-
  zint: Of, To.
-/
import Derived.Test.YtclaiidoomdklaaDoorZ2
import Derived.IntWalk
namespace Go.Proofs.YtclaiidoomdklaaDoor
open Go Go.RowKit Go.Proofs Pl
set_option linter.unusedVariables false

theorem word_one (w : World) (o : Obj) (x : Nat) (hx : x < WB) : Nm ((w.alloc o).alloc (.cells #[.int .u64 (x : Int)] 42)) 1 (.slice (some ⟨w.heap.size + 1, 0, none⟩) 1 1) x :=
  ⟨_, nl_one' (w.alloc o) x _ (by simp) hx, by simp, by simp [val]⟩
/-- An int64. -/
def Small64 (z : Int) : Prop := -9223372036854775808 ≤ z ∧ z ≤ 9223372036854775807
end Go.Proofs.YtclaiidoomdklaaDoor
