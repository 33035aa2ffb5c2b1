/-
  The document's numbers: Text.
-/
import Derived.Test.YtclaiidoomdklaaDoorI15
namespace Go.Proofs.YtclaiidoomdklaaDoor
open Go Go.RowKit Go.Proofs Pl
set_option linter.unusedVariables false
namespace I
/-- What the digits put so far are, and what is still to come. -/
theorem text_step {m j v n k R : Nat} (hv : v < 10 ^ j) (h : v + 10 ^ j * (n + 10 ^ (k + 1) * R) = m) (hn : n < 10 ^ (k + 1)) :
    ∃ v' : Nat, v' < 10 ^ (j + 1) ∧ v' + 10 ^ (j + 1) * (n / 10 + 10 ^ k * R) = m ∧ n / 10 < 10 ^ k ∧ padded (j + 1) v' = UInt8.ofNat (48 + n % 10) :: padded j v := by
  have h10 : n % 10 < 10 := Nat.mod_lt _ (by decide)
  refine ⟨v + 10 ^ j * (n % 10), ?_, ?_, by rw [Nat.pow_succ] at hn; omega, padded_front j v (n % 10) hv h10⟩
  · rw [Nat.pow_succ]
    have : 10 ^ j * (n % 10 + 1) ≤ 10 ^ j * 10 := Nat.mul_le_mul_left _ (by omega)
    rw [Nat.mul_add] at this
    omega
  · rw [← h]
    obtain ⟨Y, hY⟩ : ∃ Y, Y = n / 10 + 10 ^ k * R := ⟨_, rfl⟩
    have e1 : 10 * (10 ^ k * R) = 10 ^ (k + 1) * R := by rw [← Nat.mul_assoc, Nat.pow_succ, Nat.mul_comm 10]
    have e : n + 10 ^ (k + 1) * R = n % 10 + 10 * Y := by
      rw [hY, Nat.mul_add, e1]
      omega
    have e2 : 10 ^ j * (n % 10 + 10 * Y) = 10 ^ j * (n % 10) + 10 ^ (j + 1) * Y := by rw [Nat.mul_add, Nat.pow_succ, Nat.mul_assoc]
    rw [e, e2, ← hY, Nat.add_assoc]
theorem byte_nums (n : Nat) : ∃ z : Nat, z = (UInt8.ofNat (48 + n % 10)).toNat ∧ 48 ≤ z ∧ z ≤ 57 ∧ IntKind.u8.wrap (48 + ((n % 10 : Nat) : Int)) = (z : Int) := by
  have h10 : n % 10 < 10 := Nat.mod_lt _ (by decide)
  refine ⟨48 + n % 10, ?_, by omega, by omega, ?_⟩
  · rw [UInt8.toNat_ofNat']; omega
  · rw [IntKind.wrap_u8]; omega
/-- The digits with noughts ahead. -/
theorem padded_noughts (j m : Nat) (h : m < 10 ^ j) : ∃ r, padded j m = List.replicate r 48 ++ (if m = 0 then [] else Lib.decDigits m) := by
  cases j with
  | zero =>
    obtain rfl : m = 0 := by simpa using h
    exact ⟨0, rfl⟩
  | succ j =>
    by_cases h0 : m = 0
    · subst h0
      exact ⟨j + 1, by rw [padded_zero, if_pos rfl, List.append_nil]⟩
    · exact ⟨_, by rw [if_neg h0]; exact padded_eq (j + 1) m (by omega) h⟩
theorem dec_head : ∀ (n m : Nat), m < n → m ≠ 0 → ∃ a t, Lib.decDigits m = a :: t ∧ a ≠ 48 := by
  intro n
  induction n with
  | zero => intro m h _; exact absurd h (Nat.not_lt_zero _)
  | succ n ih =>
    intro m h h0
    rw [Lib.decDigits]
    split
    · rename_i hm
      refine ⟨_, [], rfl, ?_⟩
      intro e
      have e2 := congrArg UInt8.toNat e
      rw [UInt8.toNat_ofNat'] at e2
      have : (48 : UInt8).toNat = 48 := rfl
      rw [this] at e2
      omega
    · obtain ⟨a, t, e, ha⟩ := ih (m / 10) (by omega) (by omega)
      exact ⟨a, t ++ [UInt8.ofNat (48 + m % 10)], by rw [e]; rfl, ha⟩

def lenOf : Value → Nat
  | .slice _ n _ => n
  | _ => 0
def TextRel (m : Nat) (w wr : World) (g n j : Nat) (rest : Nat) : Prop :=
  ∃ v, v < 10 ^ j ∧ v + 10 ^ j * rest = m ∧ n = j ∧ R8 wr g 0 (padded j v) ∧ Below w.heap.size w wr

end I
end Go.Proofs.YtclaiidoomdklaaDoor
