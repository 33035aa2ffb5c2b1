/-
  The document's numbers: a number by its digits.
-/
import Derived.Test.YtgbfpimdnmmfpaaGreatDoorI13
namespace Go.Proofs.YtgbfpimdnmmfpaaGreatDoor
open Go Go.RowKit Go.Proofs Pl
set_option linter.unusedVariables false

theorem allDig_of {l : List UInt8} (h : ∀ j, (hj : j < l.length) → 48 ≤ l[j].toNat ∧ l[j].toNat ≤ 57) : allDig l = true := by
  unfold allDig
  rw [List.all_eq_true]
  intro x hx
  obtain ⟨j, hj, rfl⟩ := List.getElem_of_mem hx
  simp [digB, h j hj]
theorem allDig_bad {l : List UInt8} {j : Nat} (hj : j < l.length) (h : ¬ (48 ≤ l[j].toNat ∧ l[j].toNat ≤ 57)) : allDig l = false := by
  cases hd : allDig l with
  | false => rfl
  | true => exact absurd (allDig_get hd hj) h
theorem err_bad {l : List UInt8} (h : allDig l = false) : parseErr l = 5 := by simp [parseErr, h]
theorem err_nil {l : List UInt8} (h : l.length = 0) : parseErr l = 5 := by rw [List.eq_nil_of_length_eq_zero h]; rfl
theorem err_long {l : List UInt8} (hd : allDig l = true) (h : 200 < l.length) : parseErr l = 1 := by
  unfold parseErr
  rw [if_neg (by rw [hd]; rintro (h2 | h2)
                 · rw [h2] at h; simp at h
                 · cases h2), if_pos h]
theorem err_good {l : List UInt8} (hd : allDig l = true) (h0 : l.length ≠ 0) (h : ¬ 200 < l.length) : parseErr l = 0 := by
  unfold parseErr
  rw [if_neg (by rw [hd]; rintro (h2 | h2)
                 · rw [h2] at h0; simp at h0
                 · cases h2), if_neg h]
namespace I
theorem empty_dn (w : World) (L : Nat) : Dn (w.alloc (.cells #[] 3)) L (.slice (some ⟨w.heap.size, 0, none⟩) 0 0) 0 := by
  refine ⟨?_, Nat.pow_pos TB_pos⟩
  rw [dg_zero]
  exact (made_own w 0 0 (Nat.le_refl _) (by decide)).nl
/-- What the document's Parse answers. -/
def ParseSays (w : World) (l : List UInt8) (e : Ending) (w' : World) : Prop :=
  ∃ v, e = .returned (.tuple #[v, .int .i64 (parseErr l : Int)]) ∧ Dn w' 200 v (if parseErr l = 0 then decV l else 0) ∧ Below w.heap.size w w'
theorem parse_no {w : World} {l : List UInt8} {v : Value} {n : Nat} {w' : World} (h0 : parseErr l = n) (hn : n ≠ 0) (hd : Dn w' 200 v 0) (hb : Below w.heap.size w w') : ParseSays w l (.returned (.tuple #[v, .int .i64 (n : Int)])) w' :=
  ⟨v, by rw [h0], by rw [h0, if_neg hn]; exact hd, hb⟩
theorem ten_dn (w : World) : Dn (w.alloc (.cells #[.int .i64 10] 3)).drew 1 (.slice (some ⟨w.heap.size, 0, none⟩) 1 1) 10 := by
  have h := lit_dn w (x := 10) (L := 1) (by rw [TB_eq]; decide) (by decide) (Nat.le_refl _)
  exact h.keep (Below.refl _ _).drew
theorem dig_lt {x : Nat} (h : x ≤ 9) : x < TB := by rw [TB_eq]; omega

set_option maxRecDepth 100000 in
set_option maxHeartbeats 2000000 in
theorem parse_any (s : ByteArray) (w : World) (hs : s.size ≤ 9223372036854775807) :
    Calls Tryz.prog 58 #[.string s] w fun e w' => ParseSays w s.data.toList e w' := by
  have hl : s.data.toList.length = s.size := (Lib.size_eq s).symm
  have HL := Lib.hid hl
  clear hl
  go_enter Tryz.func58, Tryz.ntmps58
  go_wp2_with fail
  go_loop [4] (fun i => ∃ k : Nat, i = .int .i64 (k : Int) ∧ k ≤ s.size ∧ Hid (∀ j, (hj : j < s.data.toList.length) → j < k → 48 ≤ s.data.toList[j].toNat ∧ s.data.toList[j].toNat ≤ 57)) (fun i => s.size - (intOf i).toNat)
  case atStart => exact ⟨0, rfl, Nat.zero_le _, fun j _ h => absurd h (Nat.not_lt_zero _)⟩
  case round =>
    obtain ⟨k, rfl, hk, hI⟩ := hrel
    by_cases hlt : k < s.size
    · have hlk : k < s.data.toList.length := by rw [HL.out]; exact hlt
      have hsk : s.data.toList[k]'hlk = s[k] := rfl
      have hlt' : (k : Int) < (s.size : Int) := by omega
      by_cases h1 : s[k].toNat < 48
      · have E := Lib.hid (err_bad (allDig_bad hlk (by rw [hsk]; omega)))
        clear hI hsk
        go_wp2_with fail
        go_ret2
        exact parse_no E.out (by decide) (empty_dn w 200) (below_al _ _)
      · by_cases h2 : 57 < s[k].toNat
        · have E := Lib.hid (err_bad (allDig_bad hlk (by rw [hsk]; omega)))
          have h3 : 48 ≤ s[k].toNat := by omega
          clear hI hsk
          go_wp2_with fail
          go_ret2
          exact parse_no E.out (by decide) (empty_dn w 200) (below_al _ _)
        · have h3 : 48 ≤ s[k].toNat := by omega
          have h4 : s[k].toNat ≤ 57 := by omega
          have N : Hid (∀ j, (hj : j < s.data.toList.length) → j < k + 1 → 48 ≤ s.data.toList[j].toNat ∧ s.data.toList[j].toNat ≤ 57) := fun j hj hjk => by
            by_cases hjk2 : j < k
            · exact hI.out j hj hjk2
            · have : j = k := by omega
              subst this
              exact ⟨h3, h4⟩
          clear hI hsk
          go_wp2_with fail
          go_round
          case rel => exact ⟨k + 1, by go_num, by omega, N⟩
          case measure => simp [intOf]; omega
    · have hd : allDig s.data.toList = true := allDig_of fun j hj => hI.out j hj (by rw [HL.out] at hj; omega)
      have hks : k = s.size := by omega
      subst hks
      clear hI hlt hk
      by_cases h0 : s.size = 0
      · have h1 := isEmpty_true h0
        have E := Lib.hid (err_nil (l := s.data.toList) (by rw [HL.out]; exact h0))
        clear hd h0
        go_wp2_with fail
        go_ret2
        exact parse_no E.out (by decide) (empty_dn w 200) (below_al _ _)
      · have h1 := isEmpty_false h0
        by_cases h2 : 200 < s.size
        · have E := Lib.hid (err_long hd (by rw [HL.out]; exact h2))
          have h3 : (200 : Int) < (s.size : Int) := by omega
          clear hd h0
          go_wp2_with fail
          go_ret2
          exact parse_no E.out (by decide) (empty_dn w 200) (below_al _ _)
        · have E := Lib.hid (And.intro (err_good hd (by rw [HL.out]; exact h0) (by rw [HL.out]; exact h2)) hd)
          have h3 : (s.size : Int) ≤ 200 := by omega
          clear hd h0 h2
          go_wp2_with fail
          go_loopw [5, 6] (fun v i wr => ∃ k : Nat, i = .int .i64 (k : Int) ∧ k ≤ s.size ∧ Hid (Dn wr 200 v (decV (s.data.toList.take k)) ∧ Below w.heap.size w wr)) (fun _ i _ => s.size - (intOf i).toNat)
          case atStart => exact ⟨0, rfl, Nat.zero_le _, empty_dn w 200, below_al _ _⟩
          case round =>
            obtain ⟨k, rfl, hk, hO⟩ := hrel
            by_cases hlt : k < s.size
            · obtain ⟨D, hD⟩ : ∃ D, D = decV (s.data.toList.take k) := ⟨_, rfl⟩
              have hlk : k < s.data.toList.length := by rw [HL.out]; exact hlt
              obtain ⟨d1, d2⟩ := allDig_get E.out.2 hlk
              rw [← hD] at hO
              have hsk : s.data.toList[k]'hlk = s[k] := rfl
              rw [hsk] at d1 d2
              have hwd := wrap_digit _ d1 d2
              obtain ⟨x, hx⟩ : ∃ x, x = s[k].toNat - 48 := ⟨_, rfl⟩
              rw [← hx] at hwd
              have hx9 : x ≤ 9 := by omega
              have hxI : (x : Int) < 256 := by omega
              have hwi : IntKind.i64.wrap (x : Int) = (x : Int) := wrap_small _ (by omega)
              have hv : decV (s.data.toList.take (k + 1)) = D * 10 + x := by
                rw [decV_take hlk, ← hD, hx]; rfl
              have hlim : D * 10 + x < TB ^ 200 := by
                rw [← hv]
                exact Nat.lt_of_lt_of_le (decV_lt (B := TB) (by rw [TB_eq]; decide) _ E.out.2 (k + 1) (by omega)) (Nat.pow_le_pow_right TB_pos (by omega))
              have hb1 : Below wr.heap.size wr (wr.alloc (.cells #[.int .i64 10] 3)).drew := (below_al wr _).drew
              have HR := Lib.hid (And.intro (hO.out.1.keep hb1) (And.intro (ten_dn wr) hb1))
              have X := Lib.hid (And.intro hv (And.intro hlim hx9))
              clear hD hsk hx hv hlim hb1
              go_upto_region 14 with (fail)
              go_region_with (first
                | (go_at_call 70; refine (mul_dn HR.out.1 HR.out.2.1 (by decide) (by decide)).mono ?_; rintro e w3 ⟨v3, rfl, hd3, hb3⟩; have H3 := Lib.hid (And.intro hd3 (below_trans HR.out.2.2 hb3)); clear hd3 hb3)
                | (go_at_call 71; (try rw [hwi]); refine (small_any x _ (Nat.lt_of_le_of_lt X.out.2.2 (by decide))).mono ?_; rintro e w4 ⟨v4, rfl, h4⟩; have H4 := Lib.hid (And.intro (H3.out.1.keep h4.2) (And.intro (h4.dn (L := 1) (by rw [Nat.pow_one]; exact dig_lt X.out.2.2)) (below_trans H3.out.2 h4.2))); clear h4)
                | (go_at_call 67; refine (add_dn H4.out.1 H4.out.2.1 (by decide) (by decide)).mono ?_; rintro e w5 ⟨v5, rfl, h5, hb5⟩; have H5 := Lib.hid (And.intro (show Dn w5 200 v5 (D * 10 + x) from ⟨h5.1, X.out.2.1⟩) (below_trans H4.out.2.2 hb5)); clear h5 hb5))
              all_goals
                go_wp2_with fail
                go_roundw
                case rel =>
                  exact ⟨k + 1, by go_num, by omega, by rw [X.out.1]; exact H5.out.1, below_trans hO.out.2 H5.out.2⟩
                case measure => simp [intOf]; omega
            · go_wp2_with fail
              go_ret2
              have hk2 : s.data.toList.take k = s.data.toList := List.take_of_length_le (by rw [HL.out]; omega)
              have ho := hO.out
              rw [hk2] at ho
              exact ⟨_, by rw [E.out.1]; rfl, by rw [E.out.1, if_pos rfl]; exact ho.1, ho.2⟩
end I
end Go.Proofs.YtgbfpimdnmmfpaaGreatDoor
