/-
  A store into a struct's variable leaves what numbers read.
-/
import Derived.Test.YtclaiidoomdklaaDoorI11
import Derived.Test.YtclaiidoomdklaaDoorZ2
namespace Go.Proofs.YtclaiidoomdklaaDoor
open Go Go.RowKit Go.Proofs Pl
set_option linter.unusedVariables false

section
variable {t : TypeId} {w : World} {g : Nat} {p0 : Bool} {A0 : Option Addr} {l0 c0 : Nat}
theorem Bx.int_cell (X : Bx t w g (.bool p0) (.slice A0 l0 c0)) {b o : Nat} {k : IntKind} {n : Int} (h : w.cell? ⟨b, o, none⟩ = some (.int k n)) (x y : Value) :
    ((w.setCell ⟨g, 0, none⟩ x).setCell ⟨g, 1, none⟩ y).cell? ⟨b, o, none⟩ = some (.int k n) := by
  have hne : b ≠ g := by
    rintro rfl
    have X' : w.heap[b]? = _ := X
    match o, h with
    | 0, h => simp [World.cell?, X'] at h
    | 1, h => simp [World.cell?, X'] at h
    | o + 2, h => simp [World.cell?, X'] at h
  have e : ((w.setCell ⟨g, 0, none⟩ x).setCell ⟨g, 1, none⟩ y).heap[b]? = w.heap[b]? :=
    (Below.heap_setCell _ _ _ _ (by exact hne)).trans (Below.heap_setCell _ _ _ _ (by exact hne))
  exact (World.cell?_of_block (w := w) (a := ⟨b, o, none⟩) e).trans h
variable {xs : List Nat} {A : Option Addr} {s v : Value} {L n : Nat} {z : Int}
theorem Rd.put (h : Rd w A xs) (X : Bx t w g (.bool p0) (.slice A0 l0 c0)) (x y : Value) : Rd ((w.setCell ⟨g, 0, none⟩ x).setCell ⟨g, 1, none⟩ y) A xs := by
  rcases h with ⟨h1, h2⟩
  refine ⟨h1, ?_⟩
  rcases h2 with h2 | ⟨b, o, h3, h4⟩
  · exact .inl h2
  · exact .inr ⟨b, o, h3, fun j k hj => X.int_cell (h4 j k hj) x y⟩
theorem Nl.put (h : Nl w s xs) (X : Bx t w g (.bool p0) (.slice A0 l0 c0)) (x y : Value) : Nl ((w.setCell ⟨g, 0, none⟩ x).setCell ⟨g, 1, none⟩ y) s xs := by
  obtain ⟨A, c, h1, h2, h3⟩ := h
  exact ⟨A, c, h1, h2.put X x y, h3⟩
theorem Zo.put (h : Zo w v z) (X : Bx t w g (.bool p0) (.slice A0 l0 c0)) (x y : Value) : Zo ((w.setCell ⟨g, 0, none⟩ x).setCell ⟨g, 1, none⟩ y) v z := by
  obtain ⟨s, h1, h2⟩ := h
  exact ⟨s, h1, h2.put X x y⟩
namespace I
theorem Rd.put (h : Rd w A xs) (X : Bx t w g (.bool p0) (.slice A0 l0 c0)) (x y : Value) : Rd ((w.setCell ⟨g, 0, none⟩ x).setCell ⟨g, 1, none⟩ y) A xs := by
  rcases h with ⟨h1, h2⟩
  refine ⟨h1, ?_⟩
  rcases h2 with h2 | ⟨b, o, h3, h4⟩
  · exact .inl h2
  · exact .inr ⟨b, o, h3, fun j k hj => X.int_cell (h4 j k hj) x y⟩
theorem Nl.put (h : Nl w s xs) (X : Bx t w g (.bool p0) (.slice A0 l0 c0)) (x y : Value) : Nl ((w.setCell ⟨g, 0, none⟩ x).setCell ⟨g, 1, none⟩ y) s xs := by
  obtain ⟨A, c, h1, h2, h3⟩ := h
  exact ⟨A, c, h1, h2.put X x y, h3⟩
theorem Dn.put (h : Dn w L s n) (X : Bx t w g (.bool p0) (.slice A0 l0 c0)) (x y : Value) : Dn ((w.setCell ⟨g, 0, none⟩ x).setCell ⟨g, 1, none⟩ y) L s n := ⟨h.1.put X x y, h.2⟩
end I
end
end Go.Proofs.YtclaiidoomdklaaDoor
