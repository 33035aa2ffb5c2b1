/-
  The document's numbers: Cmp, Add, Sub.
-/
import Derived.Test.YtclaiidoomdklaaDoorI1
namespace Go.Proofs.YtclaiidoomdklaaDoor
namespace I
open Go Go.RowKit Go.Proofs Pl
set_option linter.unusedVariables false

def padTo (n : Nat) (xs : List Nat) : List Nat := xs ++ List.replicate (n - xs.length) 0
theorem padTo_len {n : Nat} {xs : List Nat} (h : xs.length ≤ n) : (padTo n xs).length = n := by simp [padTo]; omega
theorem padTo_val (B n : Nat) (xs : List Nat) : val B (padTo n xs) = val B xs := by rw [padTo, val_append, val_replicate, Nat.mul_zero, Nat.add_zero]
theorem padTo_all {B n : Nat} {xs : List Nat} (hB : 0 < B) (h : All B xs) : All B (padTo n xs) := h.append (All.replicate hB _)
theorem padTo_at (n : Nat) (xs : List Nat) (j : Nat) : atD (padTo n xs) j = atD xs j := by
  unfold padTo atD
  rw [List.getD_eq_getElem?_getD, List.getD_eq_getElem?_getD]
  rcases Nat.lt_or_ge j xs.length with h | h
  · rw [List.getElem?_append_left h]
  · rw [List.getElem?_append_right h, List.getElem?_eq_none h, List.getElem?_replicate]
    split <;> rfl
theorem drop_ext {n k : Nat} {P Q : List Nat} (hP : P.length = n) (hQ : Q.length = n) (h : ∀ j, k ≤ j → atD P j = atD Q j) : P.drop k = Q.drop k := by
  apply List.ext_getElem
  · simp [hP, hQ]
  · intro i h1 h2
    rw [List.getElem_drop, List.getElem_drop]
    have := h (k + i) (by omega)
    rw [atD_get (by simp at h1; omega), atD_get (by simp at h2; omega)] at this
    exact this
theorem lt_by_place {B k : Nat} {xs ys : List Nat} (hB : 0 < B) (hx : All B xs) (hy : All B ys) (h : ∀ j, k + 1 ≤ j → atD xs j = atD ys j) (hlt : atD xs k < atD ys k) : val B xs < val B ys := by
  obtain ⟨n, hn⟩ : ∃ n, n = xs.length + ys.length := ⟨_, rfl⟩
  have hk : k < n := by
    rcases Nat.lt_or_ge k n with h' | h'
    · exact h'
    · rw [atD_out (xs := ys) (by omega)] at hlt; omega
  have l1 := padTo_len (n := n) (xs := xs) (by omega)
  have l2 := padTo_len (n := n) (xs := ys) (by omega)
  have := val_lt_of (B := B) (P := padTo n xs) (Q := padTo n ys) (i := k) (padTo_all hB hx) (by omega) (by omega) (drop_ext l1 l2 fun j hj => by rw [padTo_at, padTo_at]; exact h j hj)
    (by have e1 := padTo_at n xs k; have e2 := padTo_at n ys k; rw [atD_get (by omega)] at e1 e2; omega)
  rwa [padTo_val, padTo_val] at this
theorem eq_by_place {B : Nat} {xs ys : List Nat} (h : ∀ j, atD xs j = atD ys j) : val B xs = val B ys := by
  obtain ⟨n, hn⟩ : ∃ n, n = xs.length + ys.length := ⟨_, rfl⟩
  have := drop_ext (k := 0) (padTo_len (n := n) (xs := xs) (by omega)) (padTo_len (n := n) (xs := ys) (by omega)) fun j _ => by rw [padTo_at, padTo_at]; exact h j
  rw [List.drop_zero, List.drop_zero] at this
  rw [← padTo_val B n xs, this, padTo_val]

end I
end Go.Proofs.YtclaiidoomdklaaDoor
