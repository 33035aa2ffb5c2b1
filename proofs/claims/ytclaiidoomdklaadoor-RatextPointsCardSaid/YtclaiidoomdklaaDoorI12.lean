/-
  The document's numbers: powers of two.
-/
import Derived.Test.YtclaiidoomdklaaDoorI11
namespace Go.Proofs.YtclaiidoomdklaaDoor
namespace I
open Go Go.RowKit Go.Proofs Pl
set_option linter.unusedVariables false

theorem lit_own (w : World) {x : Nat} (hx : x < TB) : Ow (w.alloc (.cells #[.int .i64 (x : Int)] 3)) w.heap.size (.slice (some ⟨w.heap.size, 0, none⟩) 1 1) [x] := by
  refine ⟨fun y hy => by rw [List.mem_singleton] at hy; subst hy; exact hx, rfl, .inr ⟨w.heap.size, 1, #[.int .i64 (x : Int)], rfl, Nat.le_refl _, heap_alloc_new _ _, Nat.le_refl _, by decide, rfl, rfl⟩⟩
theorem lit_dn (w : World) {x L : Nat} (hx : x < TB) (h0 : x ≠ 0) (hL : 1 ≤ L) : Dn (w.alloc (.cells #[.int .i64 (x : Int)] 3)) L (.slice (some ⟨w.heap.size, 0, none⟩) 1 1) x := by
  have h := lit_own w hx
  have e : dg TB x = [x] := by
    have h2 := dg_val TB_one h.1 (show Canon [x] by have := canon_snoc (ys := []) h0; exact this)
    simpa [val] using h2
  refine ⟨by rw [e]; exact h.nl, Nat.lt_of_lt_of_le hx ?_⟩
  have := Nat.pow_le_pow_right TB_pos hL
  rwa [Nat.pow_one] at this
theorem two_lt (e L : Nat) (h : e ≤ L) : 2 ^ e < TB ^ (L + 1) := by
  have h1 : 2 ^ e < 2 ^ (L + 1) := Nat.pow_lt_pow_right (by decide) (by omega)
  exact Nat.lt_of_lt_of_le h1 (Nat.pow_le_pow_left (show 2 ≤ TB from TB_one) _)
theorem Dn.two {w : World} {L L' e m : Nat} {v : Value} (h : Dn w L v m) (hm : m = 2 ^ e) (he : e ≤ L') : Dn w (L' + 1) v (2 ^ e) := ⟨by rw [← hm]; exact h.1, two_lt e L' he⟩
def PowRel (n : Nat) (w wr : World) (k : Nat) (o b : Value) : Prop :=
  ∃ e f : Nat, Dn wr (2 * n + 2) o (2 ^ f) ∧ Dn wr (2 * n + 2) b (2 ^ e) ∧ 1 ≤ e ∧ e ≤ 2 * n + 1 ∧ f + e * k = n ∧ Below w.heap.size w wr
theorem pow_nums {n e f k : Nat} (h1 : 1 ≤ e) (h : f + e * k = n) (hk : k ≠ 0) :
    e ≤ n ∧ f ≤ n ∧ (k % 2 = 0 → f + (e + e) * (k / 2) = n) ∧ (k % 2 = 1 → (f + e) + (e + e) * (k / 2) = n ∧ f + e ≤ n) := by
  have h3 : e * 1 ≤ e * k := Nat.mul_le_mul_left _ (by omega)
  have h4 := Nat.div_add_mod k 2
  have h5 : e * k = e * (2 * (k / 2)) + e * (k % 2) := by rw [← Nat.mul_add, h4]
  have h6 : (e + e) * (k / 2) = e * (2 * (k / 2)) := by rw [← Nat.mul_assoc]; congr 1; omega
  refine ⟨by omega, by omega, fun h7 => ?_, fun h7 => ?_⟩
  · rw [h7, Nat.mul_zero] at h5; omega
  · rw [h7, Nat.mul_one] at h5; omega

end I
end Go.Proofs.YtclaiidoomdklaaDoor
