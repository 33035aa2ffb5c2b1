/-
  The words of a line whose bytes are all below 128, byte by byte.
-/
import Derived.Test.YtlkhiiadoggneaaF6
namespace Go.Proofs.Ytlkhiiadoggneaa
open Go Go.RowKit Go.Lib Go.Proofs

theorem decode_low (s : ByteArray) (i : Nat) (h : (s.get! i).toNat < 128) : Utf8.decode s i = ((s.get! i).toNat, 1) := by
  unfold Utf8.decode
  simp [h]
theorem decode_high (s : ByteArray) (i : Nat) (h : ¬ (s.get! i).toNat < 128) : 128 ≤ (Utf8.decode s i).1 := by
  unfold Utf8.decode
  have e : (65533 : Nat) = Utf8.runeError := rfl
  simp only [Nat.add_zero, h, if_false]
  repeat' split
  all_goals first | (simp only [Utf8.runeError]; omega) | (rename_i hh; simp only [Bool.and_eq_true, decide_eq_true_eq, ge_iff_le] at hh; simp only; omega)
theorem bs_get (l : List UInt8) (i : Nat) (h : i < l.length) : (bs l).get! i = l[i] := by
  show (bs l).data[i]! = _
  simp [bs, h]
theorem bad_high {r : Nat} (h : 128 ≤ r) : isBad r = true := by
  simp [isBad, isBlank]; omega

/-- All bytes are blanks or signs. -/
def Good (l : List UInt8) : Prop := ∀ b ∈ l, isBad b.toNat = false
theorem good_cons (b : UInt8) (l : List UInt8) : Good (b :: l) ↔ isBad b.toNat = false ∧ Good l := by
  simp [Good]
theorem good_lt {b : UInt8} (h : isBad b.toNat = false) : b.toNat < 128 := by
  rcases Nat.lt_or_ge b.toNat 128 with h1 | h1
  · exact h1
  · rw [bad_high h1] at h; cases h

theorem idx_iff (l : List UInt8) : ∀ (f pos : Nat), l.length ≤ pos + f → (Lib.idxFuncFrom isBad true (bs l) f pos < 0 ↔ Good (l.drop pos)) := by
  intro f
  induction f with
  | zero =>
    intro pos h
    rw [List.drop_eq_nil_of_le (by omega)]
    simp [Lib.idxFuncFrom, Good]
  | succ f ih =>
    intro pos h
    unfold Lib.idxFuncFrom
    rw [bs_size]
    by_cases hp : pos < l.length
    · rw [if_pos hp]
      have hg := bs_get l pos hp
      by_cases hlow : (l[pos]).toNat < 128
      · have hd := decode_low (bs l) pos (by rw [hg]; exact hlow)
        rw [hd, hg]
        simp only
        rw [List.drop_eq_getElem_cons hp]
        cases hb : isBad (l[pos]).toNat with
        | true =>
          rw [if_pos rfl, good_cons, hb]
          constructor
          · intro h1; omega
          · rintro ⟨h1, _⟩; cases h1
        | false =>
          rw [if_neg (by simp), ih (pos + 1) (by omega), good_cons, hb]
          simp
      · have hd := bad_high (decode_high (bs l) pos (by rw [hg]; exact hlow))
        rw [hd, if_pos rfl, List.drop_eq_getElem_cons hp]
        have hb : isBad (l[pos]).toNat = true := bad_high (by omega)
        rw [good_cons, hb]
        constructor
        · intro h1; omega
        · rintro ⟨h1, _⟩; cases h1
    · rw [if_neg hp, List.drop_eq_nil_of_le (by omega)]
      simp [Good]
theorem hasBad_iff (l : List UInt8) : hasBad (bs l) = false ↔ Good l := by
  have := idx_iff l l.length 0 (by omega)
  unfold hasBad Lib.idxFunc
  rw [bs_size, decide_eq_false_iff_not, Int.not_le]
  exact this

/-- The words of the rest of a line, behind a word that has begun. -/
def fieldsL : List UInt8 → List UInt8 → List (List UInt8)
  | [], cur => if cur = [] then [] else [cur]
  | c :: l, cur => if isBlank c.toNat then (if cur = [] then fieldsL l [] else cur :: fieldsL l []) else fieldsL l (cur ++ [c])

def ext (l : List UInt8) (x : Nat × Nat) : List UInt8 := (l.drop x.1).take (x.2 - x.1)
def curOf (l : List UInt8) (pos : Nat) : Option Nat → List UInt8
  | none => []
  | some a => ext l (a, pos)
theorem ext_ne {l : List UInt8} {a b : Nat} (h : a < b) (hb : b ≤ l.length) : ext l (a, b) ≠ [] := by
  intro e
  have := congrArg List.length e
  simp [ext] at this
  omega
theorem ext_snoc {l : List UInt8} {a b : Nat} (h : a ≤ b) (hb : b < l.length) : ext l (a, b + 1) = ext l (a, b) ++ [l[b]] := by
  unfold ext
  rw [show b + 1 - a = (b - a) + 1 from by omega, List.take_succ_eq_append_getElem (by simp; omega)]
  simp [show a + (b - a) = b from by omega]

theorem spans_fields (l : List UInt8) (hg : ∀ b ∈ l, b.toNat < 128) : ∀ (f pos : Nat) (st : Option Nat) (acc : List (Nat × Nat)), l.length ≤ pos + f → pos ≤ l.length → (∀ a, st = some a → a < pos) →
    (Lib.closeSpans (bs l) (Lib.spansFromP isBlank (bs l) f pos st acc)).map (ext l) = acc.map (ext l) ++ fieldsL (l.drop pos) (curOf l pos st) := by
  intro f
  induction f with
  | zero =>
    intro pos st acc h h1 h2
    obtain rfl : pos = l.length := by omega
    rw [List.drop_length]
    cases st with
    | none => simp [Lib.spansFromP, Lib.closeSpans, fieldsL, curOf]
    | some a =>
      have := ext_ne (h2 a rfl) h1
      simp [Lib.spansFromP, Lib.closeSpans, fieldsL, curOf, this, bs_size]
  | succ f ih =>
    intro pos st acc h h1 h2
    by_cases hp : pos < l.length
    · have hgt := bs_get l pos hp
      have hlow := hg l[pos] (List.getElem_mem hp)
      have hd := decode_low (bs l) pos (by rw [hgt]; exact hlow)
      unfold Lib.spansFromP
      rw [bs_size, if_pos hp, hd, hgt]
      simp only
      rw [List.drop_eq_getElem_cons hp]
      cases hb : isBlank (l[pos]).toNat with
      | true =>
        rw [if_pos rfl]
        cases st with
        | none =>
          simp only
          rw [ih (pos + 1) none acc (by omega) (by omega) (by simp)]
          simp [fieldsL, hb, curOf]
        | some a =>
          simp only
          rw [ih (pos + 1) none (acc ++ [(a, pos)]) (by omega) (by omega) (by simp)]
          have := ext_ne (h2 a rfl) h1
          simp [fieldsL, hb, curOf, this]
      | false =>
        rw [if_neg (by simp)]
        cases st with
        | none =>
          simp only
          rw [ih (pos + 1) (some pos) acc (by omega) (by omega) (by simp)]
          have e : ext l (pos, pos + 1) = [l[pos]] := by
            rw [ext_snoc (Nat.le_refl _) hp]; simp [ext]
          simp [fieldsL, hb, curOf, e]
        | some a =>
          simp only
          rw [ih (pos + 1) (some a) acc (by omega) (by omega) (by intro b hb; have := h2 b hb; omega)]
          have e := ext_snoc (Nat.le_of_lt (h2 a rfl)) hp
          simp [fieldsL, hb, curOf, e]
    · obtain rfl : pos = l.length := by omega
      rw [List.drop_length, Lib.spansFromP_end _ _ _ _ _ _ (by rw [bs_size]; exact hp)]
      cases st with
      | none => simp [Lib.closeSpans, fieldsL, curOf]
      | some a =>
        have := ext_ne (h2 a rfl) h1
        simp [Lib.closeSpans, fieldsL, curOf, this, bs_size]
theorem words_eq (l : List UInt8) (hg : Good l) : wordsOf (bs l) = (fieldsL l []).map bs := by
  have h := spans_fields l (fun b hb => good_lt (hg b hb)) l.length 0 none [] (by omega) (by omega) (by simp)
  simp only [List.map_nil, List.nil_append, List.drop_zero, curOf] at h
  unfold wordsOf Lib.goFieldsP Lib.spansOfP
  rw [bs_size, ← h, List.map_map]
  refine List.map_congr_left fun x _ => ?_
  show (bs l).extract x.1 x.2 = bs (ext l x)
  rw [← bs_of ((bs l).extract x.1 x.2), Lib.extract_data, bs_toList]
  rfl
end Go.Proofs.Ytlkhiiadoggneaa
