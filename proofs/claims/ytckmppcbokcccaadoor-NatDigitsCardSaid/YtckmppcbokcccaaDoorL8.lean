/-
  The law NatDigits, walked.
-/
import Derived.Test.YtckmppcbokcccaaDoorI16
namespace Go.Proofs.YtckmppcbokcccaaDoor
open Go Go.RowKit Go.Proofs Pl
set_option linter.unusedVariables false

theorem digit_byte {d : Nat} (h : d < 10) : (UInt8.ofNat (48 + d)).toNat = 48 + d := by rw [UInt8.toNat_ofNat']; omega
theorem digit_digB {d : Nat} (h : d < 10) : digB (UInt8.ofNat (48 + d)) = true := by
  unfold digB
  rw [digit_byte h]
  simp; omega
theorem dec_all : ∀ (n m : Nat), m < n → allDig (Lib.decDigits m) = true ∧ decV (Lib.decDigits m) = m ∧ Lib.decDigits m ≠ [] := by
  intro n
  induction n with
  | zero => intro m h; exact absurd h (Nat.not_lt_zero _)
  | succ n ih =>
    intro m h
    rw [Lib.decDigits]
    split
    · rename_i hm
      refine ⟨?_, ?_, by simp⟩
      · unfold allDig
        rw [List.all_cons, digit_digB hm]
        rfl
      · have e := decV_snoc [] (UInt8.ofNat (48 + m))
        rw [List.nil_append, decV_nil, digit_byte hm] at e
        rw [e]; omega
    · obtain ⟨h1, h2, h3⟩ := ih (m / 10) (by omega)
      have hm : m % 10 < 10 := Nat.mod_lt _ (by decide)
      refine ⟨?_, ?_, by simp⟩
      · unfold allDig at h1 ⊢
        rw [List.all_append, h1, List.all_cons, digit_digB hm]
        rfl
      · rw [decV_snoc, h2, digit_byte hm]; omega
theorem dec_short' {m q : Nat} (hq : 0 < q) (h : m < WB ^ q) : (Lib.decDigits m).length ≤ 20 * q := by
  refine decDigits_len_le (20 * q) m (by omega) (Nat.lt_of_lt_of_le h ?_)
  rw [Nat.pow_mul]
  exact Nat.pow_le_pow_left (by rw [WB_eq]; decide) q
theorem dec_short {m : Nat} (h : m < WB ^ 90) : (Lib.decDigits m).length ≤ 1800 := dec_short' (q := 90) (by decide) h
theorem dec_first {m : Nat} {b : ByteArray} (hb : b.data.toList = Lib.decDigits m) (h : 200 < b.size) (h0 : 0 < b.size) : b[0].toNat ≠ 48 := by
  have hs : b.data.toList.length = b.size := (Lib.size_eq b).symm
  have hm : m ≠ 0 := by
    rintro rfl
    rw [hb, Lib.decDigits, dif_pos (by decide)] at hs
    simp at hs
    omega
  obtain ⟨a, t, e, ha⟩ := I.dec_head _ m (Nat.lt_succ_self m) hm
  have hx : b.data.toList[0]'(by omega) = b[0] := rfl
  rw [e] at hb
  simp only [hb, List.getElem_cons_zero] at hx
  rw [← hx]
  intro h
  exact ha (UInt8.toNat_inj.1 (by rw [h]; rfl))

set_option maxRecDepth 100000 in
set_option maxHeartbeats 2000000 in
theorem natDigits_main {a : Value} {xs : List Nat} {m : Nat} (A : Option Addr) (ca lxa : Nat) (ea : a = .slice A lxa ca) (i1 : (lxa : Int) ≤ 90) (w : World) (ht : Tab w) (ha : Nl w a xs) (la : xs.length ≤ 90) (em : val WB xs = m) :
    Calls Tryd.prog 9 #[a] w fun e w' => e = .returned (.bool true) ∧ Below w.heap.size w w' := by
  have zm : m < WB ^ 90 := by rw [← em]; exact Nat.lt_of_lt_of_le (val_lt ha.all) (Nat.pow_le_pow_right WB_pos la)
  obtain ⟨d1, d2, d3⟩ := dec_all _ m (Nat.lt_succ_self m)
  have hlen := dec_short zm
  obtain ⟨T, hT⟩ : ∃ T : ByteArray, T = ⟨(Lib.decDigits m).toArray⟩ := ⟨_, rfl⟩
  have hTl : T.data.toList = Lib.decDigits m := by rw [hT]
  have hTs : T.size = (Lib.decDigits m).length := by rw [hT, size_toArray]
  have hT0 : 0 < T.size := by
    have : (Lib.decDigits m).length ≠ 0 := fun h => d3 (List.eq_nil_of_length_eq_zero h)
    omega
  have hTb : T.size ≤ 1800 := by omega
  have ZM := Lib.hid zm
  have EM := Lib.hid em
  have LA := Lib.hid la
  have HT := Lib.hid ht
  have HA := Lib.hid ha
  have DT := Lib.hid (And.intro hT (And.intro hTl (And.intro hTs (And.intro d1 (And.intro d2 d3)))))
  clear zm em la ht ha hT hTl hTs d1 d2 d3 hlen
  subst ea
  go_enter Tryd.func9, Tryd.ntmps9
  go_wp2_with fail
  refine (speaks_any w HT.out).mono ?_; rintro e w1 ⟨rfl, b1⟩
  have S1 := Lib.hid (And.intro (HA.out.keep b1) b1)
  clear b1
  go_wp2_with fail
  refine (copy_nl S1.out.1 (by have := LA.out; omega)).mono ?_; rintro e w2 ⟨vx, rfl, ho, hb⟩
  have S2 := Lib.hid (And.intro ho.nl (And.intro (S1.out.1.keep hb) (below_trans S1.out.2 hb)))
  clear ho hb
  go_wp2_with fail
  have htx := text_nm (show Nm w2 90 vx m from ⟨_, S2.out.1, LA.out, EM.out⟩) (by decide) (HT.out.keep S2.out.2.2)
  rw [← DT.out.1] at htx
  have HTX := Lib.hid htx
  clear htx
  refine HTX.out.mono ?_; rintro e w3 ⟨rfl, b3⟩
  have S3 := Lib.hid (And.intro (S2.out.2.1.keep b3) (below_trans S2.out.2.2 b3))
  clear b3 HTX
  go_wp2_with fail
  have hp := parse_any T w3 (by omega)
  unfold ParseSays at hp
  by_cases h200 : 200 < T.size
  · have hne := dec_first DT.out.2.1 h200 hT0
    have h200I : (200 : Int) < (T.size : Int) := by omega
    have hnb : ((T[0].toNat : Int) != 48) = true := by simp; omega
    rw [err_long (by rw [DT.out.2.1]; exact DT.out.2.2.2.1) (by rw [← Lib.size_eq]; exact h200)] at hp
    have HQ := Lib.hid hp
    clear hp
    refine HQ.out.mono ?_; rintro e w4 ⟨vb, rfl, hv, b4⟩
    have S4 := Lib.hid (below_trans S3.out.2 b4)
    clear hv b4 HQ
    go_wp2_with fail
    go_ret
    exact ⟨rfl, S4.out⟩
  · have h200I : (T.size : Int) ≤ 200 := by omega
    rw [err_good (by rw [DT.out.2.1]; exact DT.out.2.2.2.1) (by rw [← Lib.size_eq]; omega) (by rw [← Lib.size_eq]; exact h200), if_pos rfl, DT.out.2.1, DT.out.2.2.2.2.1] at hp
    have HQ := Lib.hid hp
    clear hp
    refine HQ.out.mono ?_; rintro e w4 ⟨vb, rfl, hv, b4⟩
    have S4 := Lib.hid (And.intro hv.nl (And.intro (S3.out.1.keep b4) (below_trans S3.out.2 b4)))
    clear hv b4 HQ
    go_wp2_with fail
    refine (trim_nm (show Nm _ 90 _ m from ⟨_, S4.out.2.1, LA.out, EM.out⟩) (by decide)).mono ?_; rintro e w5 ⟨vt, rfl, h⟩
    have S5 := Lib.hid (And.intro h.nl (And.intro (S4.out.1.keep h.2) (And.intro (S4.out.2.1.keep h.2) (below_trans S4.out.2.2 h.2))))
    clear h
    go_wp2_with fail
    refine (same_yes S5.out.2.1 S5.out.1 rfl).mono ?_; rintro e w6 ⟨rfl, b6⟩
    have S6 := Lib.hid (And.intro (S5.out.2.2.1.keep b6) (below_trans S5.out.2.2.2 b6))
    clear b6
    go_wp2_with fail
    refine (I.of_dn S6.out.1 LA.out (by decide) EM.out).mono ?_; rintro e w7 ⟨vm, rfl, h, b7⟩
    have S7 := Lib.hid (And.intro h (below_trans S6.out.2 b7))
    clear h b7
    go_wp2_with fail
    have htx := I.text_dn w7 S7.out.1 (by decide)
    rw [← DT.out.1] at htx
    have HTX := Lib.hid htx
    clear htx
    refine HTX.out.mono ?_; rintro e w8 ⟨rfl, b8⟩
    have S8 := Lib.hid (below_trans S7.out.2 b8)
    clear b8 HTX
    go_wp2_with fail
    go_ret
    exact ⟨rfl, S8.out⟩
theorem natDigits_early {x : Nat} (w : World) (ht : Tab w) (A : Option Addr) (ca : Nat) (i1 : (90 : Int) < (x : Int)) :
    Calls Tryd.prog 9 #[.slice A x ca] w fun e w' => e = .returned (.bool true) ∧ Below w.heap.size w w' := by
  have HS := Lib.hid (speaks_any w ht)
  clear ht
  go_enter Tryd.func9, Tryd.ntmps9
  go_wp2_with fail
  refine HS.out.mono ?_; rintro e w1 ⟨rfl, hb⟩
  have HB := Lib.hid hb
  clear hb
  go_wp2_with fail
  go_ret
  exact ⟨rfl, HB.out⟩
theorem natDigits_walk (w : World) (ht : Tab w) {a : Value} {xs : List Nat} (ha : Nl w a xs) :
    Calls Tryd.prog 9 #[a] w fun e w' => e = .returned (.bool true) ∧ Below w.heap.size w w' := by
  have ha' := ha
  obtain ⟨A, ca, ea, -⟩ := ha'
  by_cases h : xs.length ≤ 90
  · exact natDigits_main A ca _ ea (by omega) w ht ha h rfl
  · subst ea
    exact natDigits_early w ht A ca (by omega)
end Go.Proofs.YtckmppcbokcccaaDoor
