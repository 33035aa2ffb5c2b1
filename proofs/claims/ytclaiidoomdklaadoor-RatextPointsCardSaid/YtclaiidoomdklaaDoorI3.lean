/-
  The document's numbers: Add, Sub.
-/
import Derived.Test.YtclaiidoomdklaaDoorI2
namespace Go.Proofs.YtclaiidoomdklaaDoor
namespace I
open Go Go.RowKit Go.Proofs Pl
set_option linter.unusedVariables false

def AddRel (B0 : Nat) (w wr : World) (xs ys : List Nat) (k c : Nat) (v : Value) : Prop :=
  ∃ zs : List Nat, Ow wr B0 v zs ∧ Below B0 w wr ∧ B0 ≤ wr.heap.size ∧ zs.length = k ∧ val TB zs + TB ^ k * c = vt TB xs k + vt TB ys k ∧ c ≤ 1 ∧ (xs.length < k → ys.length < k → c = 0) ∧ k ≤ xs.length + ys.length + 1
/-- One place of a sum, in numbers. -/
theorem add_nums {xs ys : List Nat} {k c : Nat} (hx : All TB xs) (hy : All TB ys) (hc : c ≤ 1) :
    ∃ x y s n d q : Nat, x = atD xs k ∧ y = atD ys k ∧ n = x + y + c ∧ d = n % TB ∧ q = n / TB ∧ (x < 10000 ∧ y < 10000) ∧ ((x : Int) + (y : Int) = (s : Int) ∧ (s : Int) + (c : Int) = (n : Int) ∧ (n : Int) % 10000 = (d : Int) ∧ (n : Int) / 10000 = (q : Int)) ∧ s < 20000 ∧ n < 20001 ∧ d < TB ∧ q ≤ 1 := by
  have h1 := atD_lt hx k
  have h2 := atD_lt hy k
  rw [TB_eq] at h1 h2
  refine ⟨_, _, _, _, _, _, rfl, rfl, rfl, rfl, rfl, ⟨h1, h2⟩, ⟨rfl, rfl, ?_, ?_⟩, ?_, ?_, Nat.mod_lt _ TB_pos, ?_⟩
  · rw [TB_eq]; omega
  · rw [TB_eq]; omega
  · omega
  · omega
  · rw [TB_eq]; omega
theorem AddRel.next {B0 : Nat} {w w5 : World} {xs ys : List Nat} {k c : Nat} {v5 : Value} {n x y d q : Nat} {zs : List Nat} (h : val TB zs + TB ^ k * c = vt TB xs k + vt TB ys k) (hl : zs.length = k) (hx : All TB xs) (hy : All TB ys) (ex : x = atD xs k) (ey : y = atD ys k) (en : n = x + y + c) (ed : d = n % TB) (eq : q = n / TB) (hq : q ≤ 1) (hc : c ≤ 1)
    (hgo : k < xs.length ∨ k < ys.length ∨ 0 < c) (h0 : xs.length < k → ys.length < k → c = 0) (hk : k ≤ xs.length + ys.length + 1) (h1 : Ow w5 B0 v5 (zs ++ [d])) (h2 : Below B0 w w5) (h3 : B0 ≤ w5.heap.size) : AddRel B0 w w5 xs ys (k + 1) q v5 := by
  subst ex; subst ey; subst en; subst ed; subst eq
  refine ⟨_, h1, h2, h3, by rw [List.length_append, List.length_singleton, hl], add_step hl h, hq, fun a b => ?_, by omega⟩
  rw [atD_out (xs := xs) (by omega), atD_out (xs := ys) (by omega)]
  rw [Nat.div_eq_of_lt]
  rw [TB_eq]; omega

end I
end Go.Proofs.YtclaiidoomdklaaDoor
