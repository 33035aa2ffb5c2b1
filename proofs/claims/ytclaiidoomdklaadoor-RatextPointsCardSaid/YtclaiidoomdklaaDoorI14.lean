/-
  The document's numbers: a number by its digits.
-/
import Derived.Test.YtclaiidoomdklaaDoorI13
namespace Go.Proofs.YtclaiidoomdklaaDoor
open Go Go.RowKit Go.Proofs Pl
set_option linter.unusedVariables false

theorem allDig_of {l : List UInt8} (h : ∀ j, (hj : j < l.length) → 48 ≤ l[j].toNat ∧ l[j].toNat ≤ 57) : allDig l = true := by
  unfold allDig
  rw [List.all_eq_true]
  intro x hx
  obtain ⟨j, hj, rfl⟩ := List.getElem_of_mem hx
  simp [digB, h j hj]
theorem allDig_bad {l : List UInt8} {j : Nat} (hj : j < l.length) (h : ¬ (48 ≤ l[j].toNat ∧ l[j].toNat ≤ 57)) : allDig l = false := by
  cases hd : allDig l with
  | false => rfl
  | true => exact absurd (allDig_get hd hj) h
theorem err_bad {l : List UInt8} (h : allDig l = false) : parseErr l = 5 := by simp [parseErr, h]
theorem err_nil {l : List UInt8} (h : l.length = 0) : parseErr l = 5 := by rw [List.eq_nil_of_length_eq_zero h]; rfl
theorem err_long {l : List UInt8} (hd : allDig l = true) (h : 200 < l.length) : parseErr l = 1 := by
  unfold parseErr
  rw [if_neg (by rw [hd]; rintro (h2 | h2)
                 · rw [h2] at h; simp at h
                 · cases h2), if_pos h]
theorem err_good {l : List UInt8} (hd : allDig l = true) (h0 : l.length ≠ 0) (h : ¬ 200 < l.length) : parseErr l = 0 := by
  unfold parseErr
  rw [if_neg (by rw [hd]; rintro (h2 | h2)
                 · rw [h2] at h0; simp at h0
                 · cases h2), if_neg h]
namespace I
theorem empty_dn (w : World) (L : Nat) : Dn (w.alloc (.cells #[] 3)) L (.slice (some ⟨w.heap.size, 0, none⟩) 0 0) 0 := by
  refine ⟨?_, Nat.pow_pos TB_pos⟩
  rw [dg_zero]
  exact (made_own w 0 0 (Nat.le_refl _) (by decide)).nl
/-- What the document's Parse answers. -/
def ParseSays (w : World) (l : List UInt8) (e : Ending) (w' : World) : Prop :=
  ∃ v, e = .returned (.tuple #[v, .int .i64 (parseErr l : Int)]) ∧ Dn w' 200 v (if parseErr l = 0 then decV l else 0) ∧ Below w.heap.size w w'
theorem parse_no {w : World} {l : List UInt8} {v : Value} {n : Nat} {w' : World} (h0 : parseErr l = n) (hn : n ≠ 0) (hd : Dn w' 200 v 0) (hb : Below w.heap.size w w') : ParseSays w l (.returned (.tuple #[v, .int .i64 (n : Int)])) w' :=
  ⟨v, by rw [h0], by rw [h0, if_neg hn]; exact hd, hb⟩
theorem ten_dn (w : World) : Dn (w.alloc (.cells #[.int .i64 10] 3)).drew 1 (.slice (some ⟨w.heap.size, 0, none⟩) 1 1) 10 := by
  have h := lit_dn w (x := 10) (L := 1) (by rw [TB_eq]; decide) (by decide) (Nat.le_refl _)
  exact h.keep (Below.refl _ _).drew
theorem dig_lt {x : Nat} (h : x ≤ 9) : x < TB := by rw [TB_eq]; omega

end I
end Go.Proofs.YtclaiidoomdklaaDoor
