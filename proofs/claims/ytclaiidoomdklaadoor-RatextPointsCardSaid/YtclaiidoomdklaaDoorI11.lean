/-
  The document's numbers in their one form: what each function answers.
-/
import Derived.Test.YtclaiidoomdklaaDoorI10
namespace Go.Proofs.YtclaiidoomdklaaDoor
namespace I
open Go Go.RowKit Go.Proofs Pl
set_option linter.unusedVariables false

/-- v reads the number n in its one form; n has L places at most. -/
def Dn (w : World) (L : Nat) (v : Value) (n : Nat) : Prop := Nl w v (dg TB n) ∧ n < TB ^ L
section
variable {w w' : World} {L L1 L2 m n : Nat} {v a b : Value}
theorem Dn.keep (h : Dn w L v n) (hb : Below w.heap.size w w') : Dn w' L v n := ⟨h.1.keep hb, h.2⟩
theorem Dn.nm (h : Dn w L v n) : Nm w L v n := ⟨_, h.1, dg_length_le TB_one h.2, val_dg TB_one _⟩
theorem Dn.mono {L' : Nat} (h : Dn w L v n) (hL : L ≤ L') : Dn w L' v n := ⟨h.1, Nat.lt_of_lt_of_le h.2 (Nat.pow_le_pow_right TB_pos hL)⟩
theorem Rs.dn (h : Rs w w' v n) (hn : n < TB ^ L) : Dn w' L v n := ⟨h.nl, hn⟩
end
end I
end Go.Proofs.YtclaiidoomdklaaDoor
