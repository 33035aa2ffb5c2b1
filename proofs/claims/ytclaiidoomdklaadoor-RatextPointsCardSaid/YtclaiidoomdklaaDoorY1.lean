/-
  The document's whole numbers: form, Of, To, Sign, Neg, Add, Sub, Mul, Cmp.
-/
import Derived.Test.YtclaiidoomdklaaDoorBy
import Derived.Test.YtclaiidoomdklaaDoorZ3
import Derived.Deep.RegionHeld3
namespace Go.Proofs.YtclaiidoomdklaaDoor
namespace I
open Go Go.RowKit Go.Proofs Pl
set_option linter.unusedVariables false

/-- v reads the whole number z in the document's one form. -/
def Zd (w : World) (L : Nat) (v : Value) (z : Int) : Prop := ∃ s, v = .agg #[.bool (decide (z < 0)), s] ∧ Dn w L s z.natAbs
section
variable {w w' : World} {L L' n : Nat} {v s : Value} {z : Int} {b : Bool}
theorem Zd.keep (h : Zd w L v z) (hb : Below w.heap.size w w') : Zd w' L v z := by
  obtain ⟨s, h1, h2⟩ := h
  exact ⟨s, h1, h2.keep hb⟩
theorem Zd.mono (h : Zd w L v z) (hL : L ≤ L') : Zd w L' v z := by
  obtain ⟨s, h1, h2⟩ := h
  exact ⟨s, h1, h2.mono hL⟩
theorem Zd.lt (h : Zd w L v z) : z.natAbs < TB ^ L := by
  obtain ⟨s, h1, h2⟩ := h
  exact h2.2
theorem Zd.thin (h : Zd w L v z) (hz : z.natAbs < TB ^ L') : Zd w L' v z := by
  obtain ⟨s, h1, h2⟩ := h
  exact ⟨s, h1, h2.1, hz⟩
theorem Zd.put {t : TypeId} {g : Nat} {p0 : Bool} {A0 : Option Addr} {l0 c0 : Nat} (h : Zd w L v z) (X : Bx t w g (.bool p0) (.slice A0 l0 c0)) (x y : Value) : Zd ((w.setCell ⟨g, 0, none⟩ x).setCell ⟨g, 1, none⟩ y) L v z := by
  obtain ⟨s, h1, h2⟩ := h
  exact ⟨s, h1, h2.put X x y⟩
theorem zd_of {t : TypeId} {g : Nat} {p0 p : Bool} {A0 : Option Addr} {l0 c0 : Nat} (h : Dn w L s n) (X : Bx t w g (.bool p0) (.slice A0 l0 c0)) (hp : p = decide (z < 0)) (hn : z.natAbs = n) (x y : Value) : Zd ((w.setCell ⟨g, 0, none⟩ x).setCell ⟨g, 1, none⟩ y) L (.agg #[.bool p, s]) z := by
  subst hp; subst hn
  exact ⟨s, rfl, h.put X x y⟩
theorem Zd.parts (h : Zd w L v z) : ∃ p A n c, v = .agg #[.bool p, .slice A n c] ∧ Hid (Zd w L (.agg #[.bool p, .slice A n c]) z) := by
  have h' := h
  obtain ⟨s, rfl, h2⟩ := h
  obtain ⟨⟨A, c, rfl, -⟩, -⟩ := h2
  exact ⟨_, A, _, c, rfl, h'⟩
theorem Zd.open (h : Zd w L v z) : ∃ p s n, v = .agg #[.bool p, s] ∧ Dn w L s n ∧ z = sg p n := by
  obtain ⟨s, h1, h2⟩ := h
  exact ⟨_, s, _, h1, h2, (sg_form z).symm⟩
theorem Dn.thin (h : Dn w L v n) (hz : n < TB ^ L') : Dn w L' v n := ⟨h.1, hz⟩
end
end I
end Go.Proofs.YtclaiidoomdklaaDoor
