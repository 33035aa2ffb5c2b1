/-
  The document's numbers: a number that is told by words.
-/
import Derived.Test.YtclaiidoomdklaaDoorI8
namespace Go.Proofs.YtclaiidoomdklaaDoor
namespace I
open Go Go.RowKit Go.Proofs Pl
set_option linter.unusedVariables false

theorem sum_lt {B m n p q r : Nat} (hB : 1 < B) (hm : m < B ^ p) (hn : n < B ^ q) (hp : p + 1 ≤ r) (hq : q + 1 ≤ r) : m + n < B ^ r := by
  have h1 : B ^ p ≤ B ^ (r - 1) := Nat.pow_le_pow_right (by omega) (by omega)
  have h2 : B ^ q ≤ B ^ (r - 1) := Nat.pow_le_pow_right (by omega) (by omega)
  have h3 : B ^ (r - 1) * 2 ≤ B ^ (r - 1) * B := Nat.mul_le_mul_left _ hB
  rw [show r = (r - 1) + 1 from by omega, Nat.pow_succ]
  omega
def HB : Nat := 4294967296
theorem HB_eq : HB = 4294967296 := rfl
theorem HB_sq : HB * HB = WB := by rw [HB_eq, WB_eq]
theorem HB_lt : HB < TB ^ 3 := by rw [HB_eq, TB_eq]; decide
theorem WB_le5 : WB ≤ TB ^ 5 := by rw [WB_eq, TB_eq]; decide
attribute [irreducible] HB
theorem words_lt {X k : Nat} (h : X < WB ^ k) : X < TB ^ (5 * k) := by
  rw [Nat.pow_mul]
  exact Nat.lt_of_lt_of_le h (Nat.pow_le_pow_left WB_le5 k)
/-- The halves of a word, as the walk has them. -/
theorem half_nums (x : Nat) (hx : x < WB) : ∃ h l : Nat, h < HB ∧ l < HB ∧ h * HB + l = x ∧ (x : Int) / 4294967296 = (h : Int) ∧ bits .and .u64 (x : Int) 4294967295 = (l : Int) ∧ IntKind.i64.wrap (h : Int) = (h : Int) ∧ IntKind.i64.wrap (l : Int) = (l : Int) ∧ h < 4294967296 ∧ l < 4294967296 := by
  have hm := mask32 x hx
  rw [DB_eq] at hm
  have hx2 := hx
  rw [WB_eq] at hx2
  have h1 : x / 4294967296 < 4294967296 := by omega
  have h2 : x % 4294967296 < 4294967296 := by omega
  exact ⟨x / 4294967296, x % 4294967296, by rw [HB_eq]; exact h1, by rw [HB_eq]; exact h2, by rw [HB_eq]; omega, by omega, hm, wrap_small _ (by omega), wrap_small _ (by omega), h1, h2⟩

end I
end Go.Proofs.YtclaiidoomdklaaDoor
