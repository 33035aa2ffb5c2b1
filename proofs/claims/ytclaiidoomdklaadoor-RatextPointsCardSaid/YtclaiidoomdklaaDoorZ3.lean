/-
  zint: Cmp, Of, To.
-/
import Derived.Test.YtclaiidoomdklaaDoorZ2
import Derived.IntWalk
namespace Go.Proofs.YtclaiidoomdklaaDoor
open Go Go.RowKit Go.Proofs Pl
set_option linter.unusedVariables false

theorem sign_is (x : Int) : signZ x = -1 ∧ x < 0 ∨ signZ x = 0 ∧ x = 0 ∨ signZ x = 1 ∧ 0 < x := by
  unfold signZ; split
  · exact .inr (.inl ⟨rfl, ‹_›⟩)
  · split
    · exact .inl ⟨rfl, ‹_›⟩
    · exact .inr (.inr ⟨rfl, by omega⟩)
theorem cmpZ_abs_neg {x y : Int} (hx : x < 0) (hy : y < 0) : cmpN y.natAbs x.natAbs = cmpZ x y := by unfold cmpN cmpZ; split <;> (try split) <;> (try split) <;> (try split) <;> omega
theorem cmpZ_abs {x y : Int} (hx : 0 ≤ x) (hy : 0 ≤ y) : cmpN x.natAbs y.natAbs = cmpZ x y := by unfold cmpN cmpZ; split <;> (try split) <;> (try split) <;> (try split) <;> omega
end Go.Proofs.YtclaiidoomdklaaDoor
