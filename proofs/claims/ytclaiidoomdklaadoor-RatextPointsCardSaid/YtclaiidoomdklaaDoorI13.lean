/-
  The document's numbers: how many binary digits.
-/
import Derived.Test.YtclaiidoomdklaaDoorI12
namespace Go.Proofs.YtclaiidoomdklaaDoor
open Go Go.RowKit Go.Proofs Pl
set_option linter.unusedVariables false

theorem mask1 (x : Nat) (h : x < WB) : bits .and .u64 (x : Int) 1 = ((x % 2 : Nat) : Int) := by
  unfold WB at h
  have e := u64_and_nat x 1 h (by decide)
  have e2 : x &&& 1 = x % 2 := by
    simp
  rw [e2] at e
  exact e
theorem bit_nums (x k : Nat) (hx : x < WB) (hk : k < 64) : ∃ h : Nat, (x : Int) / 2 ^ k = (h : Int) ∧ bits .and .u64 (h : Int) 1 = ((h % 2 : Nat) : Int) ∧ IntKind.u64.wrap (k : Int) = (k : Int) ∧ x % 2 ^ (k + 1) = x % 2 ^ k + 2 ^ k * (h % 2) := by
  refine ⟨x / 2 ^ k, by simp, mask1 _ (Nat.lt_of_le_of_lt (Nat.div_le_self _ _) hx), wrap_u64 _ (by rw [WB_eq]; omega), ?_⟩
  rw [Nat.mod_pow_succ]
theorem bits_hit {V i x k h : Nat} (hV : V < WB ^ i) (e : x % 2 ^ (k + 1) = x % 2 ^ k + 2 ^ k * (h % 2)) (hb : h % 2 = 1) : nb (V + WB ^ i * (x % 2 ^ (k + 1))) = i * 64 + (k + 1) := by
  have hp : 0 < 2 ^ k := Nat.pow_pos (by decide)
  rw [hb, Nat.mul_one] at e
  exact nb_words WB_pow rfl hV (by omega) (k + 1) (Nat.mod_lt _ (Nat.pow_pos (by decide))) (by rw [Nat.add_sub_cancel]; omega) (by omega)

end Go.Proofs.YtclaiidoomdklaaDoor
