/-
  The document's numbers in their one form: what each function answers.
-/
import Derived.Test.YtgbfpimdnmmfpaaGreatDoorI10
namespace Go.Proofs.YtgbfpimdnmmfpaaGreatDoor
namespace I
open Go Go.RowKit Go.Proofs Pl
set_option linter.unusedVariables false

/-- v reads the number n in its one form; n has L places at most. -/
def Dn (w : World) (L : Nat) (v : Value) (n : Nat) : Prop := Nl w v (dg TB n) ∧ n < TB ^ L
section
variable {w w' : World} {L L1 L2 m n : Nat} {v a b : Value}
theorem Dn.keep (h : Dn w L v n) (hb : Below w.heap.size w w') : Dn w' L v n := ⟨h.1.keep hb, h.2⟩
theorem Dn.nm (h : Dn w L v n) : Nm w L v n := ⟨_, h.1, dg_length_le TB_one h.2, val_dg TB_one _⟩
theorem Dn.mono {L' : Nat} (h : Dn w L v n) (hL : L ≤ L') : Dn w L' v n := ⟨h.1, Nat.lt_of_lt_of_le h.2 (Nat.pow_le_pow_right TB_pos hL)⟩
theorem Rs.dn (h : Rs w w' v n) (hn : n < TB ^ L) : Dn w' L v n := ⟨h.nl, hn⟩
theorem of_dn {xs : List Nat} (ha : _root_.Go.Proofs.YtgbfpimdnmmfpaaGreatDoor.Nl w a xs) (hl : xs.length ≤ L) (hL : L ≤ 1048576) (em : val WB xs = m) : Calls Tryz.prog 52 #[a] w fun e w' => ∃ v, e = .returned v ∧ Dn w' (5 * L) v m ∧ Below w.heap.size w w' := by
  refine (of_nl ha (by omega)).mono ?_
  rintro e w' ⟨v, he, h⟩
  have hlt : m < WB ^ L := by rw [← em]; exact Nat.lt_of_lt_of_le (val_lt ha.all) (Nat.pow_le_pow_right WB_pos hl)
  rw [em] at h
  exact ⟨v, he, h.dn (words_lt hlt), h.2⟩
theorem to_dn {K : Nat} (ha : Dn w L a n) (hL : L ≤ 1073741824) (hn : n < WB ^ K) (hK : K ≤ 1048576) : Calls Tryz.prog 55 #[a] w fun e w' => ∃ v, e = .returned v ∧ _root_.Go.Proofs.YtgbfpimdnmmfpaaGreatDoor.Nl w' v (dg WB n) ∧ Below w.heap.size w w' := by
  refine (to_any w ha.nm hL hn hK).mono ?_
  rintro e w' ⟨v, he, h⟩
  exact ⟨v, he, h.nl, h.2⟩
theorem add_dn (ha : Dn w L1 a m) (hb : Dn w L2 b n) (h1 : L1 ≤ 1073741824) (h2 : L2 ≤ 1073741824) : Calls Tryz.prog 67 #[a, b] w fun e w' => ∃ v, e = .returned v ∧ Dn w' (L1 + L2 + 1) v (m + n) ∧ Below w.heap.size w w' := by
  refine (add_nm ha.nm hb.nm (by omega) (by omega)).mono ?_
  rintro e w' ⟨v, he, h⟩
  exact ⟨v, he, h.dn (sum_lt TB_one ha.2 hb.2 (by omega) (by omega)), h.2⟩
theorem mul_dn (ha : Dn w L1 a m) (hb : Dn w L2 b n) (h1 : L1 ≤ 1073741824) (h2 : L2 ≤ 1073741824) : Calls Tryz.prog 70 #[a, b] w fun e w' => ∃ v, e = .returned v ∧ Dn w' (L1 + L2) v (m * n) ∧ Below w.heap.size w w' := by
  refine (mul_nm ha.nm hb.nm (by omega) (by omega)).mono ?_
  rintro e w' ⟨v, he, h⟩
  exact ⟨v, he, h.dn (by rw [Nat.pow_add]; exact Nat.mul_lt_mul'' ha.2 hb.2), h.2⟩
theorem sub_dn (ha : Dn w L1 a m) (hb : Dn w L2 b n) (h1 : L1 ≤ 1073741824) (h : n ≤ m) : Calls Tryz.prog 69 #[a, b] w fun e w' => ∃ v, e = .returned v ∧ Dn w' L1 v (m - n) ∧ Below w.heap.size w w' := by
  refine (sub_rs ha.1 hb.1 (by have := dg_length_le TB_one ha.2; omega) h).mono ?_
  rintro e w' ⟨v, he, hr⟩
  exact ⟨v, he, hr.dn (Nat.lt_of_le_of_lt (Nat.sub_le _ _) ha.2), hr.2⟩
theorem cmp_dn (ha : Dn w L1 a m) (hb : Dn w L2 b n) (h1 : L1 ≤ 1073741824) (h2 : L2 ≤ 1073741824) : Calls Tryz.prog 68 #[a, b] w fun e w' => e = .returned (.int .i64 (cmpN m n)) ∧ w = w' :=
  cmp_nm ha.nm hb.nm (by omega) (by omega)
theorem gcd_dn (ha : Dn w L a m) (hb : Dn w L b n) (h1 : L ≤ 1073741824) : Calls Tryz.prog 106 #[a, b] w fun e w' => ∃ v, e = .returned v ∧ Dn w' L v (Nat.gcd m n) ∧ Below w.heap.size w w' := by
  refine (gcd_nm w ha.nm hb.nm h1).mono ?_
  rintro e w' ⟨v, he, h⟩
  refine ⟨v, he, h.dn ?_, h.2⟩
  rcases Nat.eq_zero_or_pos m with h0 | h0
  · rw [h0, Nat.gcd_zero_left]; exact hb.2
  · exact Nat.lt_of_le_of_lt (Nat.gcd_le_left n h0) ha.2
theorem divMod_dn (ha : Dn w L1 a m) (hb : Dn w L2 b n) (h0 : n ≠ 0) (h1 : L1 ≤ 1073741824) (h2 : L2 ≤ 1073741824) : Calls Tryz.prog 54 #[a, b] w fun e w' => ∃ q r, e = .returned (.tuple #[q, r]) ∧ Dn w' L1 q (m / n) ∧ Dn w' L1 r (m % n) ∧ Below w.heap.size w w' := by
  refine (divMod_nm ha.nm hb.nm h0 h1 h2).mono ?_
  rintro e w' ⟨q, r, he, hq, hr⟩
  exact ⟨q, r, he, hq.dn (Nat.lt_of_le_of_lt (Nat.div_le_self _ _) ha.2), hr.dn (Nat.lt_of_le_of_lt (Nat.mod_le _ _) ha.2), hq.2⟩
end
end I
end Go.Proofs.YtgbfpimdnmmfpaaGreatDoor
