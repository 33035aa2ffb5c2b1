/-
  Decimal digits of a number: plain laws.
-/
import Derived.Test.YtclaiidoomdklaaDoorI16
namespace Go.Proofs.YtclaiidoomdklaaDoor
open Go Go.RowKit Go.Proofs Pl
set_option linter.unusedVariables false

theorem digit_byte {d : Nat} (h : d < 10) : (UInt8.ofNat (48 + d)).toNat = 48 + d := by rw [UInt8.toNat_ofNat']; omega
theorem digit_digB {d : Nat} (h : d < 10) : digB (UInt8.ofNat (48 + d)) = true := by
  unfold digB
  rw [digit_byte h]
  simp; omega
theorem dec_all : ∀ (n m : Nat), m < n → allDig (Lib.decDigits m) = true ∧ decV (Lib.decDigits m) = m ∧ Lib.decDigits m ≠ [] := by
  intro n
  induction n with
  | zero => intro m h; exact absurd h (Nat.not_lt_zero _)
  | succ n ih =>
    intro m h
    rw [Lib.decDigits]
    split
    · rename_i hm
      refine ⟨?_, ?_, by simp⟩
      · unfold allDig
        rw [List.all_cons, digit_digB hm]
        rfl
      · have e := decV_snoc [] (UInt8.ofNat (48 + m))
        rw [List.nil_append, decV_nil, digit_byte hm] at e
        rw [e]; omega
    · obtain ⟨h1, h2, h3⟩ := ih (m / 10) (by omega)
      have hm : m % 10 < 10 := Nat.mod_lt _ (by decide)
      refine ⟨?_, ?_, by simp⟩
      · unfold allDig at h1 ⊢
        rw [List.all_append, h1, List.all_cons, digit_digB hm]
        rfl
      · rw [decV_snoc, h2, digit_byte hm]; omega
theorem dec_short' {m q : Nat} (hq : 0 < q) (h : m < WB ^ q) : (Lib.decDigits m).length ≤ 20 * q := by
  refine decDigits_len_le (20 * q) m (by omega) (Nat.lt_of_lt_of_le h ?_)
  rw [Nat.pow_mul]
  exact Nat.pow_le_pow_left (by rw [WB_eq]; decide) q
theorem dec_short {m : Nat} (h : m < WB ^ 90) : (Lib.decDigits m).length ≤ 1800 := dec_short' (q := 90) (by decide) h
theorem dec_first {m : Nat} {b : ByteArray} (hb : b.data.toList = Lib.decDigits m) (h : 200 < b.size) (h0 : 0 < b.size) : b[0].toNat ≠ 48 := by
  have hs : b.data.toList.length = b.size := (Lib.size_eq b).symm
  have hm : m ≠ 0 := by
    rintro rfl
    rw [hb, Lib.decDigits, dif_pos (by decide)] at hs
    simp at hs
    omega
  obtain ⟨a, t, e, ha⟩ := I.dec_head _ m (Nat.lt_succ_self m) hm
  have hx : b.data.toList[0]'(by omega) = b[0] := rfl
  rw [e] at hb
  simp only [hb, List.getElem_cons_zero] at hx
  rw [← hx]
  intro h
  exact ha (UInt8.toNat_inj.1 (by rw [h]; rfl))
end Go.Proofs.YtclaiidoomdklaaDoor
