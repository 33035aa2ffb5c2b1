/-
  Numbers as they are handed in: which are great; words that are written over.
-/
import Derived.Test.YtclaiidoomdklaaDoorCopy
import Derived.Test.YtclaiidoomdklaaDoorZ1
namespace Go.Proofs.YtclaiidoomdklaaDoor
open Go Go.RowKit Go.Proofs Pl
set_option linter.unusedVariables false

/-- v has the sign b and the words xs, in whatever form. -/
def Zl (w : World) (v : Value) (b : Bool) (xs : List Nat) : Prop := ∃ s, v = .agg #[.bool b, s] ∧ Nl w s xs
section
variable {w w' : World} {v : Value} {b : Bool} {xs : List Nat} {L : Nat} {z : Int}
theorem Zl.keep (h : Zl w v b xs) (hb : Below w.heap.size w w') : Zl w' v b xs := by
  obtain ⟨s, h1, h2⟩ := h
  exact ⟨s, h1, h2.keep hb⟩
theorem Zl.zn (h : Zl w v b xs) (hl : xs.length ≤ L) : Zn w L v (sg b (val WB xs)) := by
  obtain ⟨s, h1, h2⟩ := h
  exact ⟨b, s, _, h1, ⟨xs, h2, hl, rfl⟩, rfl⟩
theorem Zo.zl (h : Zo w v z) : Zl w v (decide (z < 0)) (dg WB z.natAbs) := h
theorem Zl.parts (h : Zl w v b xs) : ∃ A n c, v = .agg #[.bool b, .slice A n c] ∧ n = xs.length ∧ Hid (Zl w (.agg #[.bool b, .slice A n c]) b xs) := by
  have h' := h
  obtain ⟨s, rfl, h2⟩ := h
  obtain ⟨A, c, rfl, -⟩ := h2
  exact ⟨A, _, c, rfl, rfl, h'⟩
end
/-- Blocks from lo up to hi may have been written over; the others stand. -/
def Hit (w w' : World) (lo hi : Nat) : Prop := Below lo w w' ∧ ∀ k, hi ≤ k → k < w.heap.size → w'.heap[k]? = w.heap[k]?
section
variable {w w' : World} {lo hi B : Nat} {v : Value} {xs : List Nat}
theorem Hit.ow (h : Hit w w' lo hi) (ho : Ow w B v xs) (hB : hi ≤ B) : Ow w' B v xs := by
  refine ⟨ho.1, ?_⟩
  obtain ⟨h1, h2⟩ := ho.2
  refine ⟨h1, ?_⟩
  rcases h2 with h2 | ⟨g, cap, cur, hv, hB', hh, r⟩
  · exact Or.inl h2
  · exact Or.inr ⟨g, cap, cur, hv, hB', (h.2 g (by omega) (heap_lt hh)).trans hh, r⟩
theorem Hit.bx {t : TypeId} {g : Nat} {a b : Value} (h : Hit w w' lo hi) (X : Bx t w g a b) (hg : g < lo ∨ hi ≤ g) : Bx t w' g a b := by
  rcases hg with hg | hg
  · exact (h.1.block g hg).trans X
  · exact (h.2 g hg X.lt).trans X
end
end Go.Proofs.YtclaiidoomdklaaDoor
