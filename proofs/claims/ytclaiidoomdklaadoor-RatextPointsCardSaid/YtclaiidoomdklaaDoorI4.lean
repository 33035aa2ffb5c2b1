/-
  The document's numbers: Sub.
-/
import Derived.Test.YtclaiidoomdklaaDoorI3
namespace Go.Proofs.YtclaiidoomdklaaDoor
namespace I
open Go Go.RowKit Go.Proofs Pl
set_option linter.unusedVariables false

def SubRel (B0 : Nat) (w wr : World) (xs ys : List Nat) (k c : Nat) (v : Value) : Prop :=
  ∃ zs : List Nat, Ow wr B0 v zs ∧ Below B0 w wr ∧ B0 ≤ wr.heap.size ∧ zs.length = k ∧ val TB zs + vt TB ys k = vt TB xs k + TB ^ k * c ∧ c ≤ 1
theorem sub_nums {xs ys : List Nat} {k c : Nat} (hx : All TB xs) (hy : All TB ys) (hc : c ≤ 1) :
    ∃ x y d : Nat, ∃ t : Int, x = atD xs k ∧ y = atD ys k ∧ d = (x + TB - y - c) % TB ∧ (x < 10000 ∧ y < 10000) ∧ ((x : Int) - (y : Int) - (c : Int) = t) ∧ -10001 ≤ t ∧ t < 10000 ∧ d < TB ∧ ((x < y + c ∧ t < 0 ∧ t + 10000 = (d : Int)) ∨ (¬ x < y + c ∧ ¬ t < 0 ∧ t = (d : Int))) := by
  have h1 := atD_lt hx k
  have h2 := atD_lt hy k
  rw [TB_eq] at h1 h2
  refine ⟨_, _, _, _, rfl, rfl, rfl, ⟨h1, h2⟩, rfl, by omega, by omega, Nat.mod_lt _ TB_pos, ?_⟩
  rw [TB_eq]
  by_cases h : atD xs k < atD ys k + c
  · exact .inl ⟨h, by omega, by omega⟩
  · exact .inr ⟨h, by omega, by omega⟩
theorem SubRel.next {B0 : Nat} {w w5 : World} {xs ys : List Nat} {k c q : Nat} {v5 : Value} {x y d : Nat} {zs : List Nat} (h : val TB zs + vt TB ys k = vt TB xs k + TB ^ k * c) (hl : zs.length = k) (hx : All TB xs) (hy : All TB ys) (ex : x = atD xs k) (ey : y = atD ys k) (ed : d = (x + TB - y - c) % TB) (hq : q = if x < y + c then 1 else 0) (hc : c ≤ 1)
    (h1 : Ow w5 B0 v5 (zs ++ [d])) (h2 : Below B0 w w5) (h3 : B0 ≤ w5.heap.size) : SubRel B0 w w5 xs ys (k + 1) q v5 := by
  subst ex; subst ey; subst ed
  refine ⟨_, h1, h2, h3, by rw [List.length_append, List.length_singleton, hl], ?_, by rw [hq]; split <;> omega⟩
  rw [hq]
  exact sub_step TB_pos (atD_lt hx k) (atD_lt hy k) hc hl h

end I
end Go.Proofs.YtclaiidoomdklaaDoor
