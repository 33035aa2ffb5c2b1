/-
  The document's numbers: Mul.
-/
import Derived.Test.YtclaiidoomdklaaDoorI4
namespace Go.Proofs.YtclaiidoomdklaaDoor
namespace I
open Go Go.RowKit Go.Proofs Pl
set_option linter.unusedVariables false

theorem mul_nums {o ys : List Nat} {x j k c : Nat} (hx : x < TB) (hy : All TB ys) (ho : All TB o) (hc : c < TB) :
    ∃ y z p s n d q : Nat, y = atD ys k ∧ z = atD o (j + k) ∧ n = x * y + z + c ∧ d = n % TB ∧ q = n / TB ∧ ((x : Int) * (y : Int) = (p : Int) ∧ (z : Int) + (p : Int) = (s : Int) ∧ (s : Int) + (c : Int) = (n : Int) ∧ (n : Int) % 10000 = (d : Int) ∧ (n : Int) / 10000 = (q : Int)) ∧ (p < 100000000 ∧ s < 100010000 ∧ n < 100020000) ∧ d < TB ∧ q < TB := by
  have h2 := atD_lt hy k
  have h3 := atD_lt ho (j + k)
  rw [TB_eq] at hx h2 h3 hc
  have h4 : x * atD ys k ≤ 9999 * 9999 := Nat.mul_le_mul (by omega) (by omega)
  refine ⟨_, _, x * atD ys k, atD o (j + k) + x * atD ys k, _, _, _, rfl, rfl, rfl, rfl, rfl, ⟨by rw [Int.natCast_mul], by omega, by omega, ?_, ?_⟩, ⟨by omega, by omega, by omega⟩, Nat.mod_lt _ TB_pos, ?_⟩
  · rw [TB_eq]; omega
  · rw [TB_eq]; omega
  · rw [TB_eq]; omega
theorem mul_high {xs ys o : List Nat} {j k c : Nat} (hx : All TB xs) (hy : All TB ys) (hj : j < xs.length) (h : val TB o + TB ^ (j + k) * c = vt TB xs j * val TB ys + TB ^ j * (atD xs j * vt TB ys k)) (hk : ys.length < k) : c = 0 := by
  rcases Nat.eq_zero_or_pos c with h0 | h0
  · exact h0
  exfalso
  rw [vt_all (xs := ys) TB (by omega)] at h
  have e : vt TB xs j * val TB ys + TB ^ j * (atD xs j * val TB ys) = vt TB xs (j + 1) * val TB ys := by rw [vt, Nat.add_mul, Nat.mul_assoc]
  rw [e, vt_eq] at h
  have h1 := take_lt hx (m := j + 1) (by omega)
  have h2 := val_lt hy
  have h3 : val TB (xs.take (j + 1)) * val TB ys < TB ^ (j + 1 + ys.length) := by rw [Nat.pow_add]; exact Nat.mul_lt_mul'' h1 h2
  have h4 : TB ^ (j + 1 + ys.length) ≤ TB ^ (j + k) := Nat.pow_le_pow_right TB_pos (by omega)
  have h5 : TB ^ (j + k) * 1 ≤ TB ^ (j + k) * c := Nat.mul_le_mul_left _ h0
  omega
theorem mul_done {xs ys o : List Nat} {j k : Nat} (h : val TB o + TB ^ (j + k) * 0 = vt TB xs j * val TB ys + TB ^ j * (atD xs j * vt TB ys k)) (hk : ys.length ≤ k) : val TB o = vt TB xs (j + 1) * val TB ys := by
  rw [vt_all (xs := ys) TB hk] at h
  rw [vt, Nat.add_mul, Nat.mul_assoc, ← h, Nat.mul_zero, Nat.add_zero]

end I
end Go.Proofs.YtclaiidoomdklaaDoor
