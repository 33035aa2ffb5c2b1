/-
  The document's numbers: DivMod.
-/
import Derived.Test.YtclaiidoomdklaaDoorI5
import Derived.Laws.AppendOwnNone
namespace Go.Proofs.YtclaiidoomdklaaDoor
namespace I
open Go Go.RowKit Go.Proofs Pl
set_option linter.unusedVariables false

theorem nl_one (w : World) (x b : Nat) (hb : b = w.heap.size) (hx : x < TB) : Ow (w.alloc (.cells #[.int .i64 (x : Int)] 3)) w.heap.size (.slice (some ⟨b, 0, none⟩) 1 1) [x] := by
  subst hb
  refine ⟨All.cons hx All.nil, by simp [wis], .inr ⟨w.heap.size, 1, #[.int .i64 (x : Int)], by simp, Nat.le_refl _, heap_alloc_new _ _, by simp, by decide, by simp, by simp [wis]⟩⟩
theorem nm_one (w : World) (x b : Nat) (hb : b = w.heap.size) (hx : x < TB) : Nm (w.alloc (.cells #[.int .i64 (x : Int)] 3)) 1 (.slice (some ⟨b, 0, none⟩) 1 1) x := ⟨_, (nl_one w x b hb hx).nl, by simp, by simp [val]⟩
/-- A row far from the block that is written. -/
theorem Ow.far {w w' : World} {B g : Nat} {v : Value} {xs : List Nat} (h : Ow w B v xs) (hg : w.grownBy w' (some g)) (hlt : g < B) : Ow w' B v xs :=
  ⟨h.1, own_grown_below h.2 hg (fun k hk => by injection hk with hk; omega)⟩
def DivRel (n : Nat) (xs : List Nat) (B0 g la : Nat) (w wr : World) (k : Nat) (rv : Value) : Prop :=
  ∃ (R : Nat) (qs : List Nat), Ow wr B0 rv (dg TB R) ∧ Ow wr B0 (.slice (some ⟨g, 0, none⟩) la la) qs ∧ qs.length = la ∧ Below B0 w wr ∧ val TB (xs.drop k) = val TB (qs.drop k) * n + R ∧ R < n ∧ g < wr.heap.size
theorem div_nums {low high : Nat} (h1 : low + 1 < high) (h2 : high ≤ TB) : ∃ sm mid : Nat, (low : Int) + (high : Int) = (sm : Int) ∧ (sm : Int) / 2 = (mid : Int) ∧ sm < 20001 ∧ low < mid ∧ mid < high ∧ mid < TB :=
  ⟨low + high, (low + high) / 2, by omega, by omega, by rw [TB_eq] at h2; omega, by omega, by omega, by omega⟩
/-- What one place of the quotient leaves. -/
theorem div_place {n R x low k la : Nat} {xs qs : List Nat} (hlow : low * n ≤ R * TB + x) (hhigh : R * TB + x < (low + 1) * n) (hx : x = atD xs k) (hk : k < xs.length) (hq : k < qs.length) (h : val TB (xs.drop (k + 1)) = val TB (qs.drop (k + 1)) * n + R) :
    val TB (xs.drop k) = val TB ((qs.set k low).drop k) * n + (R * TB + x - n * low) ∧ R * TB + x - n * low < n := by
  have hn : 0 < n := by
    rcases Nat.eq_zero_or_pos n with h0 | h0
    · rw [h0] at hhigh; omega
    · exact h0
  rw [Nat.add_mul] at hhigh
  have e1 : (R * TB + x) / n = low := by
    apply Nat.div_eq_of_lt_le
    · exact hlow
    · rw [Nat.add_mul]; exact hhigh
  have e2 := by_step (W := n) hk hq h
  have e3 := Nat.div_add_mod (R * TB + x) n
  rw [← hx, e1] at e2
  rw [e1] at e3
  rw [Nat.mul_comm low n] at hlow hhigh
  refine ⟨by rw [e2]; omega, by omega⟩
end I
end Go.Proofs.YtclaiidoomdklaaDoor
