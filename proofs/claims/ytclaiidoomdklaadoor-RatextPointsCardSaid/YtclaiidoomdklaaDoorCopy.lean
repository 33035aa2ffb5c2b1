/-
  The document's Copy for words; writing over words; the laws' own small functions.
-/
import Derived.Test.YtclaiidoomdklaaDoorA8
namespace Go.Proofs.YtclaiidoomdklaaDoor
open Go Go.RowKit Go.Proofs Pl
set_option linter.unusedVariables false

theorem ow_snoc {w : World} {B : Nat} {v : Value} {ys : List Nat} {x n : Nat} (hy : All WB ys) (hx : x < WB) (hn : n = ys.length) (h : w.ownsRow B 42 1 v (n + 1) (wis ys ++ [.int .u64 (x : Int)])) : Ow w B v (ys ++ [x]) := by
  subst hn
  refine ⟨hy.append (All.cons hx All.nil), ?_⟩
  rw [List.length_append, List.length_singleton, ← wis_app]
  exact h


end Go.Proofs.YtclaiidoomdklaaDoor
