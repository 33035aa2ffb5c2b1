/-
  The law NatTexts, walked.
-/
import Derived.Test.YtckmppcbokcccaaDoorI14
import Derived.Test.YtckmppcbokcccaaDoorL5
namespace Go.Proofs.YtckmppcbokcccaaDoor
open Go Go.RowKit Go.Proofs Pl
set_option linter.unusedVariables false

theorem byte_back {c : UInt8} (h : 48 ≤ c.toNat) : UInt8.ofNat (48 + (c.toNat - 48)) = c := by
  rw [show 48 + (c.toNat - 48) = c.toNat by omega, UInt8.ofNat_toNat]
theorem dec_back : ∀ (n : Nat) (l : List UInt8), l.length = n → allDig l = true → l ≠ [] → (l.length = 1 ∨ l.head? ≠ some 48) → Lib.decDigits (decV l) = l := by
  intro n
  induction n with
  | zero => intro l hl _ h0; exact absurd (List.eq_nil_of_length_eq_zero hl) h0
  | succ n ih =>
    intro l hl hd h0 hh
    obtain ⟨t, c, rfl⟩ : ∃ t c, l = t ++ [c] := ⟨l.dropLast, l.getLast h0, (List.dropLast_concat_getLast h0).symm⟩
    have hd2 : allDig t = true ∧ digB c = true := by simpa [allDig] using hd
    have hc : 48 ≤ c.toNat ∧ c.toNat ≤ 57 := by simpa [digB] using hd2.2
    have hlen : t.length = n := by simpa using hl
    rw [decV_snoc]
    cases t with
    | nil =>
      rw [decV_nil, Lib.decDigits, dif_pos (by omega), Nat.zero_mul, Nat.zero_add, byte_back hc.1]
      rfl
    | cons a t =>
      have hh2 : (a :: t).head? ≠ some 48 := by
        rcases hh with h | h
        · simp at h
        · simpa using h
      have e := ih (a :: t) hlen hd2.1 (by simp) (.inr hh2)
      have hz : decV (a :: t) ≠ 0 := by
        intro hz
        rw [hz, Lib.decDigits, dif_pos (by decide)] at e
        have e2 : (48 : UInt8) = a := by injection e
        exact hh2 (by rw [← e2]; rfl)
      rw [Lib.decDigits, dif_neg (by omega), show (decV (a :: t) * 10 + (c.toNat - 48)) / 10 = decV (a :: t) by omega, show (decV (a :: t) * 10 + (c.toNat - 48)) % 10 = c.toNat - 48 by omega, e, byte_back hc.1]
theorem err_zero {l : List UInt8} (h : parseErr l = 0) : allDig l = true ∧ l ≠ [] ∧ l.length ≤ 200 := by
  unfold parseErr at h
  split at h
  · cases h
  · rename_i h1
    split at h
    · cases h
    · refine ⟨?_, fun h2 => h1 (.inl h2), by omega⟩
      cases hd : allDig l with
      | true => rfl
      | false => exact absurd (.inr hd) h1
theorem parse_words (pe D : Nat) : (if pe = 0 then dg WB D else []) = dg WB (if pe = 0 then D else 0) := by
  split
  · rfl
  · rw [dg_zero]
theorem parse_lt {l : List UInt8} : (if parseErr l = 0 then decV l else 0) < WB ^ 200 := by
  split
  · rename_i h
    obtain ⟨h1, -, h3⟩ := err_zero h
    have h4 := decV_lt (B := WB) (by rw [WB_eq]; decide) l h1 l.length (Nat.le_refl _)
    rw [List.take_length] at h4
    exact Nat.lt_of_lt_of_le h4 (Nat.pow_le_pow_right WB_pos h3)
  · exact Nat.pow_pos WB_pos
def szOf : Value → Nat
  | .string b => b.size
  | _ => 0
/-- What is left of the text is of this number. -/
def Left (D : Nat) (b : ByteArray) : Prop := allDig b.data.toList = true ∧ b.data.toList ≠ [] ∧ decV b.data.toList = D
theorem cut_toList (b : ByteArray) : (b.extract 1 b.size).data.toList = b.data.toList.drop 1 := by
  rw [Lib.extract_data, List.take_of_length_le]
  rw [List.length_drop, ← Lib.size_eq]
  exact Nat.le_refl _
theorem left_cut {D : Nat} {b : ByteArray} (h : Left D b) (h1 : 1 < b.size) (h0 : b[0].toNat = 48) : Left D (b.extract 1 b.size) ∧ (b.extract 1 b.size).size + 1 = b.size := by
  have e := cut_toList b
  have hs : b.data.toList.length = b.size := (Lib.size_eq b).symm
  have hs2 : (b.extract 1 b.size).data.toList.length = (b.extract 1 b.size).size := (Lib.size_eq _).symm
  obtain ⟨l, hl⟩ : ∃ l, l = b.data.toList := ⟨_, rfl⟩
  have hx : b.data.toList[0]'(by omega) = b[0] := rfl
  rw [e] at hs2
  refine ⟨?_, by rw [← hs2, List.length_drop, hs]; omega⟩
  unfold Left at h ⊢
  rw [e]
  cases hc : b.data.toList with
  | nil => rw [hc] at hs; simp at hs; omega
  | cons a t =>
    simp only [hc, List.getElem_cons_zero] at hx
    rw [hc] at h hs
    have ha : a.toNat = 48 := by rw [hx]; exact h0
    refine ⟨?_, ?_, ?_⟩
    · have := h.1
      simp only [allDig, List.all_cons, Bool.and_eq_true] at this
      exact this.2
    · intro ht
      simp only [List.drop_succ_cons, List.drop_zero] at ht
      rw [ht] at hs
      simp at hs
      omega
    · rw [← h.2.2]
      simp [decV, ha]
theorem left_end {D : Nat} {b : ByteArray} (h : Left D b) (h1 : b.size ≤ 1 ∨ ∃ hb : 0 < b.size, b[0].toNat ≠ 48) : (⟨(Lib.decDigits D).toArray⟩ : ByteArray) = b := by
  obtain ⟨h2, h3, h4⟩ := h
  have hs : b.data.toList.length = b.size := (Lib.size_eq b).symm
  have e := dec_back _ b.data.toList rfl h2 h3 (by
    rcases h1 with h1 | ⟨hb, h1⟩
    · left
      have : b.data.toList.length ≠ 0 := fun h => h3 (List.eq_nil_of_length_eq_zero h)
      omega
    · right
      have hx : b.data.toList[0]'(by omega) = b[0] := rfl
      rw [List.head?_eq_getElem?, List.getElem?_eq_getElem (by omega), hx]
      intro hh
      injection hh with hh
      exact h1 (by rw [hh]; rfl))
  rw [h4] at e
  rw [e]

set_option maxRecDepth 100000 in
set_option maxHeartbeats 2000000 in
theorem natTexts_bad (s : ByteArray) (w : World) (ht : Tab w) (hs : s.size ≤ 9223372036854775807) (pe : Nat) (hpe : pe = parseErr s.data.toList) (h0 : pe ≠ 0) :
    Calls Tryd.prog 8 #[.string s] w fun e w' => e = .returned (.bool true) ∧ Below w.heap.size w w' := by
  have HT := Lib.hid ht
  have HP := Lib.hid hpe
  have i1 : ((pe : Int) != (pe : Int)) = false := by simp
  have i2 : ((pe : Int) == 0) = false := by simp; omega
  have i3 : (pe : Int) ≠ 0 := by omega
  clear ht hpe h0
  go_enter Tryd.func8, Tryd.ntmps8
  go_wp2_with fail
  refine (speaks_any w HT.out).mono ?_; rintro e w1 ⟨rfl, b1⟩
  have S1 := Lib.hid b1
  clear b1
  go_wp2_with fail
  have hp := parse_any s w1 hs
  unfold ParseSays at hp
  rw [← HP.out] at hp
  have HQ := Lib.hid hp
  clear hp
  refine HQ.out.mono ?_; rintro e w2 ⟨va, rfl, ha, b2⟩
  have S2 := Lib.hid (And.intro ha.nl (below_trans S1.out b2))
  clear ha b2 HQ
  go_wp2_with fail
  have hp := I.parse_any s w2 hs
  unfold I.ParseSays at hp
  rw [← HP.out] at hp
  have HQ := Lib.hid hp
  clear hp
  refine HQ.out.mono ?_; rintro e w3 ⟨vb, rfl, hb, b3⟩
  have S3 := Lib.hid (And.intro hb (And.intro (S2.out.1.keep b3) (below_trans S2.out.2 b3)))
  clear hb b3 HQ
  go_wp2_with fail
  refine (I.to_dn (K := 200) S3.out.1 (by decide) (by rw [HP.out]; exact parse_lt) (by decide)).mono ?_; rintro e w4 ⟨vc, rfl, hc, b4⟩
  have S4 := Lib.hid (And.intro hc (And.intro (S3.out.2.1.keep b4) (below_trans S3.out.2.2 b4)))
  clear hc b4
  go_wp2_with fail
  refine (same_yes S4.out.2.1 S4.out.1 (parse_words _ _)).mono ?_; rintro e w5 ⟨rfl, b5⟩
  have S5 := Lib.hid (below_trans S4.out.2.2 b5)
  clear b5
  go_wp2_with fail
  go_ret
  exact ⟨rfl, S5.out⟩

set_option maxRecDepth 100000 in
set_option maxHeartbeats 2000000 in
theorem natTexts_good (s : ByteArray) (w : World) (ht : Tab w) (hs : s.size ≤ 9223372036854775807) (h0 : parseErr s.data.toList = 0) :
    Calls Tryd.prog 8 #[.string s] w fun e w' => e = .returned (.bool true) ∧ Below w.heap.size w w' := by
  have HT := Lib.hid ht
  have HP := Lib.hid h0
  obtain ⟨D, hD⟩ : ∃ D, D = decV s.data.toList := ⟨_, rfl⟩
  have hlt : D < WB ^ 200 := by
    have := parse_lt (l := s.data.toList)
    rw [if_pos h0, ← hD] at this
    exact this
  have HD := Lib.hid (And.intro hD hlt)
  have hsz : s.size ≤ 200 := by
    have := (err_zero h0).2.2
    rwa [← Lib.size_eq] at this
  have HL := Lib.hid (show Left D s from ⟨(err_zero h0).1, (err_zero h0).2.1, hD.symm⟩)
  clear ht h0 hD hlt
  go_enter Tryd.func8, Tryd.ntmps8
  go_wp2_with fail
  refine (speaks_any w HT.out).mono ?_; rintro e w1 ⟨rfl, b1⟩
  have S1 := Lib.hid b1
  clear b1
  go_wp2_with fail
  have hp := parse_any s w1 hs
  unfold ParseSays at hp
  rw [HP.out, if_pos rfl, ← HD.out.1] at hp
  have HQ := Lib.hid hp
  clear hp
  refine HQ.out.mono ?_; rintro e w2 ⟨va, rfl, ha, b2⟩
  have S2 := Lib.hid (And.intro ha.nl (below_trans S1.out b2))
  clear ha b2 HQ
  go_wp2_with fail
  have hp := I.parse_any s w2 hs
  unfold I.ParseSays at hp
  rw [HP.out, if_pos rfl, ← HD.out.1] at hp
  have HQ := Lib.hid hp
  clear hp
  refine HQ.out.mono ?_; rintro e w3 ⟨vb, rfl, hb, b3⟩
  have S3 := Lib.hid (And.intro hb (And.intro (S2.out.1.keep b3) (below_trans S2.out.2 b3)))
  clear hb b3 HQ
  go_wp2_with fail
  refine (I.to_dn (K := 200) S3.out.1 (by decide) HD.out.2 (by decide)).mono ?_; rintro e w4 ⟨vc, rfl, hc, b4⟩
  have S4 := Lib.hid (And.intro hc (And.intro (S3.out.2.1.keep b4) (below_trans S3.out.2.2 b4)))
  clear hc b4
  go_wp2_with fail
  refine (same_yes S4.out.2.1 S4.out.1 rfl).mono ?_; rintro e w5 ⟨rfl, b5⟩
  have S5 := Lib.hid (And.intro (S4.out.2.1.keep b5) (below_trans S4.out.2.2 b5))
  clear b5
  go_wp2_with fail
  have htx := text_nm (show Nm w5 200 va D from ⟨_, S5.out.1, dg_length_le WB_one HD.out.2, val_dg WB_one _⟩) (by decide) (HT.out.keep S5.out.2)
  obtain ⟨T, hT⟩ : ∃ T : ByteArray, T = ⟨(Lib.decDigits D).toArray⟩ := ⟨_, rfl⟩
  rw [← hT] at htx
  have HTX := Lib.hid htx
  have HT2 := Lib.hid hT
  clear htx hT
  refine HTX.out.mono ?_; rintro e w6 ⟨rfl, b6⟩
  have S6 := Lib.hid (below_trans S5.out.2 b6)
  clear b6 HTX
  go_wp2_with fail
  go_loop [0] (fun v => ∃ b : ByteArray, v = .string b ∧ b.size ≤ 200 ∧ Hid (Left D b)) (fun v => szOf v)
  case atStart => exact ⟨s, rfl, hsz, HL.out⟩
  case round =>
    obtain ⟨b, rfl, hb, hI⟩ := hrel
    have hbI : (b.size : Int) ≤ 200 := by omega
    by_cases h1 : 1 < b.size
    · have h1I : (1 : Int) < (b.size : Int) := by omega
      have h1z : 0 < b.size := by omega
      by_cases h2 : b[0].toNat = 48
      · have N := Lib.hid (left_cut hI.out h1 h2)
        go_wp2_with fail
        go_round
        case rel => exact ⟨_, rfl, by have := N.out.2; omega, N.out.1⟩
        case measure => simp only [szOf]; have := N.out.2; omega
      · have E : T = b := by rw [HT2.out]; exact left_end hI.out (.inr ⟨h1z, h2⟩)
        subst E
        go_wp2_with fail
        go_ret
        exact ⟨rfl, S6.out⟩
    · have h1I : (b.size : Int) ≤ 1 := by omega
      have E : T = b := by rw [HT2.out]; exact left_end hI.out (.inl (by omega))
      subst E
      go_wp2_with fail
      go_ret
      exact ⟨rfl, S6.out⟩
theorem natTexts_walk (w : World) (ht : Tab w) (s : ByteArray) (hs : s.size ≤ 9223372036854775807) :
    Calls Tryd.prog 8 #[.string s] w fun e w' => e = .returned (.bool true) ∧ Below w.heap.size w w' := by
  by_cases h : parseErr s.data.toList = 0
  · exact natTexts_good s w ht hs h
  · exact natTexts_bad s w ht hs _ rfl h
end Go.Proofs.YtckmppcbokcccaaDoor
