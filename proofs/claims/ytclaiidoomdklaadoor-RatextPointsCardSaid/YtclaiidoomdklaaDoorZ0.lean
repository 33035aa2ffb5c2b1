/-
  Plain laws of whole numbers by their sign and their distance from 0.
-/
import Derived.Test.YtclaiidoomdklaaDoorA1
set_option linter.unusedVariables false
namespace Go.Proofs.YtclaiidoomdklaaDoor
namespace Pl
/-- A whole number by its sign and its distance from 0. -/
def sg (b : Bool) (n : Nat) : Int := if b then -(n : Int) else n
theorem sg_zero (b : Bool) : sg b 0 = 0 := by cases b <;> rfl
theorem sg_abs (b : Bool) (n : Nat) : (sg b n).natAbs = n := by cases b <;> simp [sg]
theorem sg_neg (b : Bool) (n : Nat) : decide (sg b n < 0) = (b && decide (n ≠ 0)) := by
  cases b
  · simp [sg]
  · cases n with
    | zero => rfl
    | succ n =>
      have h : sg true (n + 1) < 0 := by simp only [sg, if_true]; omega
      rw [decide_eq_true h]
      rfl
theorem sg_form (z : Int) : sg (decide (z < 0)) z.natAbs = z := by
  unfold sg
  by_cases h : z < 0
  · simp [h]; omega
  · simp [h]; omega
theorem sg_not (b : Bool) (n : Nat) : sg (!b) n = -sg b n := by cases b <;> simp [sg]
theorem sg_add (b : Bool) (m n : Nat) : sg b m + sg b n = sg b (m + n) := by cases b <;> simp [sg] <;> omega
theorem sg_sub (b : Bool) (m n : Nat) (h : n ≤ m) : sg b m + sg (!b) n = sg b (m - n) := by cases b <;> simp [sg] <;> omega
theorem sg_sub' (b : Bool) (m n : Nat) (h : m ≤ n) : sg b m + sg (!b) n = sg (!b) (n - m) := by cases b <;> simp [sg] <;> omega
theorem sg_mul (a b : Bool) (m n : Nat) : sg a m * sg b n = sg (a != b) (m * n) := by cases a <;> cases b <;> simp [sg, Int.mul_neg, Int.neg_mul]
/-- The sign of a whole number, as the code has it. -/
def signZ (z : Int) : Int := if z = 0 then 0 else if z < 0 then -1 else 1
/-- The comparison of two, as the code has it. -/
def cmpZ (x y : Int) : Int := if x < y then -1 else if x = y then 0 else 1
theorem cmpZ_sub (x y : Int) : signZ (x - y) = cmpZ x y := by unfold signZ cmpZ; split <;> (try split) <;> (try split) <;> (try split) <;> omega
/-- Quotient and rest, rounded down, by the distances from 0. -/
theorem fdiv_same (b : Bool) (m n : Nat) : Int.fdiv (sg b m) (sg b n) = ((m / n : Nat) : Int) := by
  cases b
  · simp [sg, Int.natCast_ediv, Int.fdiv_eq_ediv_of_nonneg]
  · simp only [sg, if_true, Int.neg_fdiv_neg]
    rw [Int.fdiv_eq_ediv_of_nonneg _ (by omega)]
    simp
theorem fdiv_unlike (b : Bool) (m n : Nat) (h : n ≠ 0) : Int.fdiv (sg b m) (sg (!b) n) = -((m / n : Nat) : Int) - (if m % n = 0 then 0 else 1) := by
  have key : Int.fdiv (-(m : Int)) (n : Int) = -((m / n : Nat) : Int) - (if m % n = 0 then 0 else 1) := by
    rw [Int.fdiv_eq_ediv_of_nonneg _ (by omega)]
    have hd := Nat.div_add_mod m n
    have hl := Nat.mod_lt m (Nat.pos_of_ne_zero h)
    have hn : (0 : Int) < (n : Int) := by omega
    have hI : (n : Int) * ((m / n : Nat) : Int) + ((m % n : Nat) : Int) = (m : Int) := by exact_mod_cast hd
    split
    · rename_i h0
      rw [h0] at hI
      have e : -(m : Int) = (n : Int) * (-((m / n : Nat) : Int)) := by rw [Int.mul_neg]; omega
      rw [e, Int.mul_ediv_cancel_left _ (by omega)]; omega
    · rename_i h0
      have e : -(m : Int) = ((n : Int) - ((m % n : Nat) : Int)) + (n : Int) * (-((m / n : Nat) : Int) - 1) := by
        rw [Int.mul_sub, Int.mul_neg]; omega
      rw [e, Int.add_mul_ediv_left _ _ (by omega), Int.ediv_eq_zero_of_lt (by omega) (by omega)]; omega
  cases b
  · have e := Int.neg_fdiv_neg (-(m : Int)) (n : Int)
    rw [Int.neg_neg] at e
    simpa [sg, e] using key
  · simpa [sg] using key
end Pl
end Go.Proofs.YtclaiidoomdklaaDoor
