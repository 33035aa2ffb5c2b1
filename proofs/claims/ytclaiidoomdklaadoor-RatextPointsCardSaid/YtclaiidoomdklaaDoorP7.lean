/-
  Decimal digits of a text: plain laws.
-/
import Derived.Test.YtclaiidoomdklaaDoorI14
namespace Go.Proofs.YtclaiidoomdklaaDoor
open Go Go.RowKit Go.Proofs Pl
set_option linter.unusedVariables false

theorem byte_back {c : UInt8} (h : 48 ≤ c.toNat) : UInt8.ofNat (48 + (c.toNat - 48)) = c := by
  rw [show 48 + (c.toNat - 48) = c.toNat by omega, UInt8.ofNat_toNat]
theorem dec_back : ∀ (n : Nat) (l : List UInt8), l.length = n → allDig l = true → l ≠ [] → (l.length = 1 ∨ l.head? ≠ some 48) → Lib.decDigits (decV l) = l := by
  intro n
  induction n with
  | zero => intro l hl _ h0; exact absurd (List.eq_nil_of_length_eq_zero hl) h0
  | succ n ih =>
    intro l hl hd h0 hh
    obtain ⟨t, c, rfl⟩ : ∃ t c, l = t ++ [c] := ⟨l.dropLast, l.getLast h0, (List.dropLast_concat_getLast h0).symm⟩
    have hd2 : allDig t = true ∧ digB c = true := by simpa [allDig] using hd
    have hc : 48 ≤ c.toNat ∧ c.toNat ≤ 57 := by simpa [digB] using hd2.2
    have hlen : t.length = n := by simpa using hl
    rw [decV_snoc]
    cases t with
    | nil =>
      rw [decV_nil, Lib.decDigits, dif_pos (by omega), Nat.zero_mul, Nat.zero_add, byte_back hc.1]
      rfl
    | cons a t =>
      have hh2 : (a :: t).head? ≠ some 48 := by
        rcases hh with h | h
        · simp at h
        · simpa using h
      have e := ih (a :: t) hlen hd2.1 (by simp) (.inr hh2)
      have hz : decV (a :: t) ≠ 0 := by
        intro hz
        rw [hz, Lib.decDigits, dif_pos (by decide)] at e
        have e2 : (48 : UInt8) = a := by injection e
        exact hh2 (by rw [← e2]; rfl)
      rw [Lib.decDigits, dif_neg (by omega), show (decV (a :: t) * 10 + (c.toNat - 48)) / 10 = decV (a :: t) by omega, show (decV (a :: t) * 10 + (c.toNat - 48)) % 10 = c.toNat - 48 by omega, e, byte_back hc.1]
theorem err_zero {l : List UInt8} (h : parseErr l = 0) : allDig l = true ∧ l ≠ [] ∧ l.length ≤ 200 := by
  unfold parseErr at h
  split at h
  · cases h
  · rename_i h1
    split at h
    · cases h
    · refine ⟨?_, fun h2 => h1 (.inl h2), by omega⟩
      cases hd : allDig l with
      | true => rfl
      | false => exact absurd (.inr hd) h1
theorem parse_words (pe D : Nat) : (if pe = 0 then dg WB D else []) = dg WB (if pe = 0 then D else 0) := by
  split
  · rfl
  · rw [dg_zero]
theorem parse_lt {l : List UInt8} : (if parseErr l = 0 then decV l else 0) < WB ^ 200 := by
  split
  · rename_i h
    obtain ⟨h1, -, h3⟩ := err_zero h
    have h4 := decV_lt (B := WB) (by rw [WB_eq]; decide) l h1 l.length (Nat.le_refl _)
    rw [List.take_length] at h4
    exact Nat.lt_of_lt_of_le h4 (Nat.pow_le_pow_right WB_pos h3)
  · exact Nat.pow_pos WB_pos
def szOf : Value → Nat
  | .string b => b.size
  | _ => 0
/-- What is left of the text is of this number. -/
def Left (D : Nat) (b : ByteArray) : Prop := allDig b.data.toList = true ∧ b.data.toList ≠ [] ∧ decV b.data.toList = D
theorem cut_toList (b : ByteArray) : (b.extract 1 b.size).data.toList = b.data.toList.drop 1 := by
  rw [Lib.extract_data, List.take_of_length_le]
  rw [List.length_drop, ← Lib.size_eq]
  exact Nat.le_refl _
theorem left_cut {D : Nat} {b : ByteArray} (h : Left D b) (h1 : 1 < b.size) (h0 : b[0].toNat = 48) : Left D (b.extract 1 b.size) ∧ (b.extract 1 b.size).size + 1 = b.size := by
  have e := cut_toList b
  have hs : b.data.toList.length = b.size := (Lib.size_eq b).symm
  have hs2 : (b.extract 1 b.size).data.toList.length = (b.extract 1 b.size).size := (Lib.size_eq _).symm
  obtain ⟨l, hl⟩ : ∃ l, l = b.data.toList := ⟨_, rfl⟩
  have hx : b.data.toList[0]'(by omega) = b[0] := rfl
  rw [e] at hs2
  refine ⟨?_, by rw [← hs2, List.length_drop, hs]; omega⟩
  unfold Left at h ⊢
  rw [e]
  cases hc : b.data.toList with
  | nil => rw [hc] at hs; simp at hs; omega
  | cons a t =>
    simp only [hc, List.getElem_cons_zero] at hx
    rw [hc] at h hs
    have ha : a.toNat = 48 := by rw [hx]; exact h0
    refine ⟨?_, ?_, ?_⟩
    · have := h.1
      simp only [allDig, List.all_cons, Bool.and_eq_true] at this
      exact this.2
    · intro ht
      simp only [List.drop_succ_cons, List.drop_zero] at ht
      rw [ht] at hs
      simp at hs
      omega
    · rw [← h.2.2]
      simp [decV, ha]
theorem left_end {D : Nat} {b : ByteArray} (h : Left D b) (h1 : b.size ≤ 1 ∨ ∃ hb : 0 < b.size, b[0].toNat ≠ 48) : (⟨(Lib.decDigits D).toArray⟩ : ByteArray) = b := by
  obtain ⟨h2, h3, h4⟩ := h
  have hs : b.data.toList.length = b.size := (Lib.size_eq b).symm
  have e := dec_back _ b.data.toList rfl h2 h3 (by
    rcases h1 with h1 | ⟨hb, h1⟩
    · left
      have : b.data.toList.length ≠ 0 := fun h => h3 (List.eq_nil_of_length_eq_zero h)
      omega
    · right
      have hx : b.data.toList[0]'(by omega) = b[0] := rfl
      rw [List.head?_eq_getElem?, List.getElem?_eq_getElem (by omega), hx]
      intro hh
      injection hh with hh
      exact h1 (by rw [hh]; rfl))
  rw [h4] at e
  rw [e]
end Go.Proofs.YtclaiidoomdklaaDoor
