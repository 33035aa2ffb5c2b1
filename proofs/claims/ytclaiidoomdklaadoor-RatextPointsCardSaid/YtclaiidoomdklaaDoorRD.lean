/-
  ratext.Parse of any text; the law RatextThere, walked.
-/
import Derived.Test.YtclaiidoomdklaaDoorRB
namespace Go.Proofs.YtclaiidoomdklaaDoor
section
open Go Go.RowKit Go.Proofs Pl
set_option linter.unusedVariables false
set_option linter.unusedSimpArgs false
set_option maxRecDepth 100000 in
set_option maxHeartbeats 2000000 in
theorem rparse_longd {w : World} {s : ByteArray} {b sm : Bool} {wh pt ex ov : List UInt8} {d E : Nat} (hs : SplitSays s b sm wh pt ex ov d true) (hE : valT (ex ++ [48]) = E) (hd : 200 < d) (hx : ex.length ≤ 9223372036854775000) :
    Calls Tryd.prog 5 #[.string s] w fun e w' => e = .returned (.tuple #[.agg #[.bool false, .slice none 0 0, .slice none 0 0], .int .i64 1]) ∧ Below w.heap.size w w' := by
  have HS := Lib.hid hs
  have e1 : decide ((200 : Int) < (d : Int)) = true := decide_eq_true (by omega)
  have z1 : (St ex).size ≤ 9223372036854775000 := by rw [st_size]; omega
  have hv := fun W => value_s (w := W) (St ex ++ ByteArray.mk #[48]) (by rw [app_size]; show _ + 1 ≤ _; omega)
  rw [show (St ex ++ ByteArray.mk #[48]).data.toList = ex ++ [48] by rw [Go.Joins.data_append, st_list], hE] at hv
  have HV := Lib.hid (And.intro hv (And.intro (show E < WB ^ 200 by rw [← hE]; exact valT_lt _) trivial))
  clear hs hE hd hx hv
  go_enter Tryd.func5, Tryd.ntmps5
  go_upto_region 1 with (fail)
  have hX := B3.new 27 w (.bool false) (.slice none 0 0) (.slice none 0 0)
  have S0 := Lib.hid (And.intro (hX) (below_al w (.cells #[.bool false, .slice none 0 0, .slice none 0 0] 27)))
  clear hX
  generalize w.alloc _ = W0 at S0 ⊢
  go_wp2_with fail
  refine (HS.out _).mono ?_; rintro e w1 ⟨rfl, hb⟩
  have S1 := Lib.hid (And.intro (S0.out.1.keep (hb)) (below_trans (S0.out.2) (hb)))
  clear hb  S0
  go_upto_region 2 with (fail)
  have hP := B6.new 37 w1 (.bool b) (.bool sm) (.string (St wh)) (.string (St pt)) (.string (St ex)) (.string (St ov))
  obtain ⟨gp, hgp⟩ : ∃ g, g = w1.heap.size := ⟨_, rfl⟩
  have S2 := Lib.hid (And.intro (S1.out.1.keep ((below_al w1 (.cells #[.bool b, .bool sm, .string (St wh), .string (St pt), .string (St ex), .string (St ov)] 37)))) (And.intro (hP) (And.intro ((show w.heap.size < w1.heap.size from S1.out.1.lt)) (below_trans (S1.out.2) ((below_al w1 (.cells #[.bool b, .bool sm, .string (St wh), .string (St pt), .string (St ex), .string (St ov)] 37)))))))
  clear hP S1
  generalize w1.alloc _ = W1 at S2 ⊢
  rw [← hgp] at S2 ⊢
  clear hgp
  have hgz := S2.out.2.2.1
  have S3 := Lib.hid (And.intro (S2.out.1) (And.intro (S2.out.2.1) (S2.out.2.2.2)))
  clear S2
  obtain ⟨Pa, Pb, Pc, Pd, Pe, Pf, -, -, -, -, -, -⟩ := S3.out.2.1.facts
  go_wp2_with fail
  refine (HV.out.1 _).mono ?_; rintro e wv ⟨v, rfl, h⟩
  clear Pa Pb Pc Pd Pe Pf
  obtain ⟨Ax, lx, cx, rfl⟩ := h.form
  have S4 := Lib.hid (And.intro (S3.out.1.keep (h.2)) (And.intro (S3.out.2.1.keep (h.2)) (And.intro (h.nm HV.out.2.1) (below_trans (S3.out.2.2) (h.2)))))
  clear h S3
  obtain ⟨f0, f1, f2, f3, f4, f5⟩ := S4.out.1.facts
  go_wp2_with fail
  refine ret_b3 S4.out.1 (fun W d0 d1 d2 => by simp [results, Tryd.results5, go_sem, d0, d1, d2]; try rfl) rfl ?_
  exact ⟨rfl, S4.out.1.below S4.out.2.2.2 (Nat.le_refl _) _ _ _⟩
set_option maxRecDepth 100000 in
set_option maxHeartbeats 2000000 in
theorem rparse_longe {w : World} {s : ByteArray} {b sm : Bool} {wh pt ex ov : List UInt8} {d E : Nat} (hs : SplitSays s b sm wh pt ex ov d true) (hE : valT (ex ++ [48]) = E) (hd : d ≤ 200) (h9 : 990 < E) (hx : ex.length ≤ 9223372036854775000) :
    Calls Tryd.prog 5 #[.string s] w fun e w' => e = .returned (.tuple #[.agg #[.bool false, .slice none 0 0, .slice none 0 0], .int .i64 1]) ∧ Below w.heap.size w w' := by
  have HS := Lib.hid hs
  have e1 : decide ((200 : Int) < (d : Int)) = false := decide_eq_false (by omega)
  have z1 : (St ex).size ≤ 9223372036854775000 := by rw [st_size]; omega
  have hv := fun W => value_s (w := W) (St ex ++ ByteArray.mk #[48]) (by rw [app_size]; show _ + 1 ≤ _; omega)
  rw [show (St ex ++ ByteArray.mk #[48]).data.toList = ex ++ [48] by rw [Go.Joins.data_append, st_list], hE] at hv
  obtain ⟨c, hc⟩ : ∃ c, cmpN E 990 = c := ⟨_, rfl⟩
  have e2 : decide ((0 : Int) < c) = true := decide_eq_true (by rw [← hc, cmpN]; split <;> (try split) <;> omega)
  have HV := Lib.hid (And.intro hv (And.intro (show E < WB ^ 200 by rw [← hE]; exact valT_lt _) hc))
  clear hs hE hd hx hv hc h9
  go_enter Tryd.func5, Tryd.ntmps5
  go_upto_region 1 with (fail)
  have hX := B3.new 27 w (.bool false) (.slice none 0 0) (.slice none 0 0)
  have S0 := Lib.hid (And.intro (hX) (below_al w (.cells #[.bool false, .slice none 0 0, .slice none 0 0] 27)))
  clear hX
  generalize w.alloc _ = W0 at S0 ⊢
  go_wp2_with fail
  refine (HS.out _).mono ?_; rintro e w1 ⟨rfl, hb⟩
  have S1 := Lib.hid (And.intro (S0.out.1.keep (hb)) (below_trans (S0.out.2) (hb)))
  clear hb  S0
  go_upto_region 2 with (fail)
  have hP := B6.new 37 w1 (.bool b) (.bool sm) (.string (St wh)) (.string (St pt)) (.string (St ex)) (.string (St ov))
  obtain ⟨gp, hgp⟩ : ∃ g, g = w1.heap.size := ⟨_, rfl⟩
  have S2 := Lib.hid (And.intro (S1.out.1.keep ((below_al w1 (.cells #[.bool b, .bool sm, .string (St wh), .string (St pt), .string (St ex), .string (St ov)] 37)))) (And.intro (hP) (And.intro ((show w.heap.size < w1.heap.size from S1.out.1.lt)) (below_trans (S1.out.2) ((below_al w1 (.cells #[.bool b, .bool sm, .string (St wh), .string (St pt), .string (St ex), .string (St ov)] 37)))))))
  clear hP S1
  generalize w1.alloc _ = W1 at S2 ⊢
  rw [← hgp] at S2 ⊢
  clear hgp
  have hgz := S2.out.2.2.1
  have S3 := Lib.hid (And.intro (S2.out.1) (And.intro (S2.out.2.1) (S2.out.2.2.2)))
  clear S2
  obtain ⟨Pa, Pb, Pc, Pd, Pe, Pf, -, -, -, -, -, -⟩ := S3.out.2.1.facts
  go_wp2_with fail
  refine (HV.out.1 _).mono ?_; rintro e wv ⟨v, rfl, h⟩
  clear Pa Pb Pc Pd Pe Pf
  obtain ⟨Ax, lx, cx, rfl⟩ := h.form
  have S4 := Lib.hid (And.intro (S3.out.1.keep (h.2)) (And.intro (S3.out.2.1.keep (h.2)) (And.intro (h.nm HV.out.2.1) (below_trans (S3.out.2.2) (h.2)))))
  clear h S3
  go_wp2_with fail
  refine (cmp_nm (S4.out.2.2.1.keep (below_al _ _)) (nine_nm _)).mono ?_; rintro e wc ⟨rfl, hb⟩
  rw [HV.out.2.2]
  have S5 := Lib.hid (And.intro (S4.out.1.keep ((below_trans (below_al _ _) hb))) (And.intro (S4.out.2.1.keep ((below_trans (below_al _ _) hb))) (And.intro (S4.out.2.2.1.keep ((below_trans (below_al _ _) hb))) (below_trans (S4.out.2.2.2) ((below_trans (below_al _ _) hb))))))
  clear hb S4
  obtain ⟨f0, f1, f2, f3, f4, f5⟩ := S5.out.1.facts
  go_wp2_with fail
  refine ret_b3 S5.out.1 (fun W d0 d1 d2 => by simp [results, Tryd.results5, go_sem, d0, d1, d2]; try rfl) rfl ?_
  exact ⟨rfl, S5.out.1.below S5.out.2.2.2 (Nat.le_refl _) _ _ _⟩
theorem cut_false {any l l' : List UInt8} (h : cutC any l = (false, l')) : l' = l := by
  unfold cutC at h
  cases l with
  | nil => simpa using h.symm
  | cons c t =>
    simp only at h
    split at h
    · cases h
    · injection h with _ h; exact h.symm
theorem ne_len {l : List UInt8} (h : l.isEmpty = false) : 0 < l.length := by cases l with
  | nil => cases h
  | cons _ _ => simp
theorem digs_len (l : List UInt8) : (digs l).length ≤ l.length := by have := digs_le l; omega
theorem rest_len (l : List UInt8) : (rest l).length ≤ l.length := by have := digs_le l; omega
/-- What is told of the parts. -/
def Parts (l wh pt ex ov : List UInt8) (d : Nat) (ok : Bool) : Prop := (ok = true → 0 < wh.length ∧ d = wh.length + pt.length + ex.length + ov.length) ∧ ex.length ≤ l.length
theorem split_any (l : List UInt8) (hM : l.length ≤ 9223372036854775807) : ∃ b sm wh pt ex ov d ok, SplitSays (St l) b sm wh pt ex ov d ok ∧ Parts l wh pt ex ov d ok := by
  rcases h1 : cutC [43, 45] l with ⟨sb, l1⟩
  have n1 := cut_le [43, 45] l
  rw [h1] at n1
  simp only at n1
  rcases h2 : cutC [47] (rest l1) with ⟨t2, l3⟩
  cases t2
  · obtain rfl := cut_false h2
    rcases h3 : cutC [46] (rest l1) with ⟨t3, l4⟩
    have n3 := cut_le [46] (rest l1)
    rw [h3] at n3
    simp only at n3
    cases t3
    · obtain rfl := cut_false h3
      rcases h4 : cutC [101, 69] (rest l1) with ⟨t4, l5⟩
      have n4 := cut_le [101, 69] (rest l1)
      rw [h4] at n4
      simp only at n4
      cases t4
      · obtain rfl := cut_false h4
        cases hw : (digs l1).isEmpty
        · skip
          exact ⟨_, false, (digs l1), [], [], [], (digs l1).length, (rest l1).isEmpty, fun W => split_000_122 (w := W) (l5 := []) (l6 := []) (l7 := []) (ex := []) (s5 := false) (sm := false) (l3 := []) (l4 := []) (pt := []) (yb1 := false) (yb2 := false) (yb3 := false) hM rfl h1 rfl rfl h2 h3 h4 hw rfl, ⟨(fun _ => ⟨ne_len hw, by simp⟩), Nat.zero_le _⟩⟩
        · skip
          exact ⟨_, false, (digs l1), [], [], [], (digs l1).length, false, fun W => split_000_022 (w := W) (l5 := []) (l6 := []) (l7 := []) (ex := []) (s5 := false) (sm := false) (l3 := []) (l4 := []) (pt := []) (yb1 := false) (yb2 := false) (yb3 := false) hM rfl h1 rfl rfl h2 h3 h4 hw rfl, ⟨(fun h => by cases h), Nat.zero_le _⟩⟩
      · rcases h5 : cutC [43, 45] l5 with ⟨s5, l6⟩
        have n5 := cut_le [43, 45] l5
        rw [h5] at n5
        simp only at n5
        have m1 := rest_len l1
        cases hw : (digs l1).isEmpty
        · skip
          cases he : (digs l6).isEmpty
          · skip
            exact ⟨_, (l5.head? == some 45), (digs l1), [], (digs l6), [], (digs l1).length + (digs l6).length, (rest l6).isEmpty, fun W => split_001_121 (w := W) (l3 := []) (l4 := []) (pt := []) (yb1 := false) (yb2 := false) (yb3 := false) hM rfl h1 rfl rfl h2 h3 h4 rfl h5 rfl rfl hw he rfl, ⟨(fun _ => ⟨ne_len hw, by simp⟩), by have := digs_len l6; have := n5; omega⟩⟩
          · skip
            exact ⟨_, (l5.head? == some 45), (digs l1), [], (digs l6), [], (digs l1).length + (digs l6).length, false, fun W => split_001_120 (w := W) (l3 := []) (l4 := []) (pt := []) (yb1 := false) (yb2 := false) (yb3 := false) hM rfl h1 rfl rfl h2 h3 h4 rfl h5 rfl rfl hw he rfl, ⟨(fun h => by cases h), by have := digs_len l6; have := n5; omega⟩⟩
        · skip
          exact ⟨_, (l5.head? == some 45), (digs l1), [], (digs l6), [], (digs l1).length + (digs l6).length, false, fun W => split_001_022 (w := W) (l3 := []) (l4 := []) (pt := []) (yb1 := false) (yb2 := false) hM rfl h1 rfl rfl h2 h3 h4 rfl h5 rfl rfl hw rfl rfl, ⟨(fun h => by cases h), by have := digs_len l6; have := n5; omega⟩⟩
    · skip
      rcases h4 : cutC [101, 69] (rest l4) with ⟨t4, l5⟩
      have n4 := cut_le [101, 69] (rest l4)
      rw [h4] at n4
      simp only at n4
      cases t4
      · obtain rfl := cut_false h4
        cases hw : (digs l1).isEmpty
        · skip
          cases hp : (digs l4).isEmpty
          · skip
            exact ⟨_, false, (digs l1), (digs l4), [], [], (digs l1).length + (digs l4).length, (rest l4).isEmpty, fun W => split_010_112 (w := W) (l5 := []) (l6 := []) (l7 := []) (ex := []) (s5 := false) (sm := false) (yb1 := false) (yb2 := false) (yb3 := false) hM rfl h1 rfl rfl h2 h3 rfl rfl h4 hw hp rfl, ⟨(fun _ => ⟨ne_len hw, by simp⟩), Nat.zero_le _⟩⟩
          · skip
            exact ⟨_, false, (digs l1), (digs l4), [], [], (digs l1).length + (digs l4).length, false, fun W => split_010_102 (w := W) (l5 := []) (l6 := []) (l7 := []) (ex := []) (s5 := false) (sm := false) (yb1 := false) (yb2 := false) (yb3 := false) hM rfl h1 rfl rfl h2 h3 rfl rfl h4 hw hp rfl, ⟨(fun h => by cases h), Nat.zero_le _⟩⟩
        · skip
          exact ⟨_, false, (digs l1), (digs l4), [], [], (digs l1).length + (digs l4).length, false, fun W => split_010_022 (w := W) (l5 := []) (l6 := []) (l7 := []) (ex := []) (s5 := false) (sm := false) (yb1 := false) (yb3 := false) hM rfl h1 rfl rfl h2 h3 rfl rfl h4 hw rfl rfl, ⟨(fun h => by cases h), Nat.zero_le _⟩⟩
      · rcases h5 : cutC [43, 45] l5 with ⟨s5, l6⟩
        have n5 := cut_le [43, 45] l5
        rw [h5] at n5
        simp only at n5
        have m1 := rest_len l1
        have m4 := rest_len l4
        cases hw : (digs l1).isEmpty
        · skip
          cases hp : (digs l4).isEmpty
          · skip
            cases he : (digs l6).isEmpty
            · skip
              exact ⟨_, (l5.head? == some 45), (digs l1), (digs l4), (digs l6), [], (digs l1).length + (digs l4).length + (digs l6).length, (rest l6).isEmpty, fun W => split_011_111 (w := W) (yb1 := false) (yb2 := false) (yb3 := false) hM rfl h1 rfl rfl h2 h3 rfl rfl h4 rfl h5 rfl rfl hw hp he rfl, ⟨(fun _ => ⟨ne_len hw, by simp⟩), by have := digs_len l6; have := n5; omega⟩⟩
            · skip
              exact ⟨_, (l5.head? == some 45), (digs l1), (digs l4), (digs l6), [], (digs l1).length + (digs l4).length + (digs l6).length, false, fun W => split_011_110 (w := W) (yb1 := false) (yb2 := false) (yb3 := false) hM rfl h1 rfl rfl h2 h3 rfl rfl h4 rfl h5 rfl rfl hw hp he rfl, ⟨(fun h => by cases h), by have := digs_len l6; have := n5; omega⟩⟩
          · skip
            exact ⟨_, (l5.head? == some 45), (digs l1), (digs l4), (digs l6), [], (digs l1).length + (digs l4).length + (digs l6).length, false, fun W => split_011_102 (w := W) (yb1 := false) (yb2 := false) hM rfl h1 rfl rfl h2 h3 rfl rfl h4 rfl h5 rfl rfl hw hp rfl rfl, ⟨(fun h => by cases h), by have := digs_len l6; have := n5; omega⟩⟩
        · skip
          exact ⟨_, (l5.head? == some 45), (digs l1), (digs l4), (digs l6), [], (digs l1).length + (digs l4).length + (digs l6).length, false, fun W => split_011_022 (w := W) (yb1 := false) hM rfl h1 rfl rfl h2 h3 rfl rfl h4 rfl h5 rfl rfl hw rfl rfl rfl, ⟨(fun h => by cases h), by have := digs_len l6; have := n5; omega⟩⟩
  · skip
    cases hw : (digs l1).isEmpty
    · skip
      cases hp : (digs l3).isEmpty
      · skip
        exact ⟨_, false, (digs l1), [], [], (digs l3), (digs l1).length + (digs l3).length, (rest l3).isEmpty, fun W => split_100_112 (w := W) (l5 := []) (l6 := []) (l7 := []) (ex := []) (s5 := false) (sm := false) (yb1 := false) (yb2 := false) (yb3 := false) hM rfl h1 rfl rfl h2 rfl rfl hw hp rfl, ⟨(fun _ => ⟨ne_len hw, by simp⟩), Nat.zero_le _⟩⟩
      · skip
        exact ⟨_, false, (digs l1), [], [], (digs l3), (digs l1).length + (digs l3).length, false, fun W => split_100_102 (w := W) (l5 := []) (l6 := []) (l7 := []) (ex := []) (s5 := false) (sm := false) (yb1 := false) (yb2 := false) (yb3 := false) hM rfl h1 rfl rfl h2 rfl rfl hw hp rfl, ⟨(fun h => by cases h), Nat.zero_le _⟩⟩
    · skip
      exact ⟨_, false, (digs l1), [], [], (digs l3), (digs l1).length + (digs l3).length, false, fun W => split_100_022 (w := W) (l5 := []) (l6 := []) (l7 := []) (ex := []) (s5 := false) (sm := false) (yb1 := false) (yb3 := false) hM rfl h1 rfl rfl h2 rfl rfl hw rfl rfl, ⟨(fun h => by cases h), Nat.zero_le _⟩⟩
/-- What Parse says of any text. -/
def Refuses (s : ByteArray) (k : Int) : Prop := ∀ W, Calls Tryd.prog 5 #[.string s] W fun e w' => e = .returned (.tuple #[.agg #[.bool false, .slice none 0 0, .slice none 0 0], .int .i64 k]) ∧ Below W.heap.size W w'
def Gives (s : ByteArray) (z : Int) (n : Nat) : Prop := ∀ W, Calls Tryd.prog 5 #[.string s] W fun e w' => ∃ v, e = .returned (.tuple #[v, .int .i64 0]) ∧ Qs W w' v z n
theorem rparse_gen (l : List UInt8) (hM : l.length ≤ 9223372036854775000) : (∃ k : Int, k ≠ 0 ∧ Refuses (St l) k) ∨ (∃ z n Z, n ≠ 0 ∧ Z ≤ 1000 ∧ z.natAbs < WB ^ Z ∧ n < WB ^ Z ∧ Gives (St l) (qn z n) (qd z n)) := by
  obtain ⟨b, sm, wh, pt, ex, ov, d, ok, hs, hp, hx⟩ := split_any l (by omega)
  cases ok
  · exact .inl ⟨5, by decide, fun W => rparse_bad hs⟩
  obtain ⟨hw, hd⟩ := hp rfl
  obtain ⟨E, hE⟩ : ∃ E, valT (ex ++ [48]) = E := ⟨_, rfl⟩
  by_cases hd2 : 200 < d
  · exact .inl ⟨1, by decide, fun W => rparse_longd hs hE hd2 (by omega)⟩
  by_cases h9 : 990 < E
  · exact .inl ⟨1, by decide, fun W => rparse_longe hs hE (by omega) h9 (by omega)⟩
  have hl : wh.length + pt.length + ex.length + ov.length ≤ 200 := by omega
  obtain ⟨AA, hAA⟩ : ∃ A, A = 200 := ⟨_, rfl⟩
  obtain ⟨Z, hZ⟩ : ∃ Z, Z = AA + AA := ⟨_, rfl⟩
  have up : ∀ {k : Nat}, k < WB ^ 200 → k < WB ^ Z := fun h => Nat.lt_of_lt_of_le h (Nat.pow_le_pow_right WB_pos (by omega))
  have mu : ∀ {k m : Nat}, k < WB ^ 200 → m < WB ^ 200 → k * m < WB ^ Z := fun h1 h2 => by rw [hZ]; exact pow_mul (by rw [hAA]; exact h1) (by rw [hAA]; exact h2)
  have tp : ∀ {k : Nat}, k < 200 → 10 ^ k < WB ^ 200 := fun h => Nat.lt_of_lt_of_le (Nat.pow_lt_pow_right (by decide) h) (Nat.pow_le_pow_left (by rw [WB_eq]; decide) 200)
  have t0 : ∀ k : Nat, 10 ^ k ≠ 0 := fun k => by have := Nat.pow_pos (n := k) (show 0 < 10 by decide); omega
  have hZ2 : Z ≤ 1000 := by omega
  cases ho : ov.isEmpty
  · by_cases h0 : valT ov = 0
    · exact .inl ⟨3, by decide, fun W => rparse_zero hs (by omega) hl hw hE (by omega) ho h0⟩
    · exact .inr ⟨sg b (valT wh), valT ov, Z, h0, hZ2, by rw [sg_abs]; exact up (valT_lt _), up (valT_lt _), fun W => rparse_over hs (by omega) hl hw hE (by omega) ho h0⟩
  · cases hxe : ex.isEmpty
    · by_cases h0 : E = 0
      · exact .inr ⟨sg b (valT (wh ++ pt)), 10 ^ pt.length, Z, t0 _, hZ2, by rw [sg_abs]; exact up (valT_lt _), up (tp (by omega)), fun W => rparse_nil hs (by omega) hl hw hE (by omega) ho hxe h0⟩
      · cases sm
        · exact .inr ⟨sg b (valT (wh ++ pt) * 10 ^ (E / 10)), 10 ^ pt.length, Z, t0 _, hZ2, by rw [sg_abs]; exact mu (valT_lt _) (tp (by omega)), up (tp (by omega)), fun W => rparse_big hs (by omega) hl hw hE (by omega) ho hxe h0 rfl⟩
        · exact .inr ⟨sg b (valT (wh ++ pt)), 10 ^ pt.length * 10 ^ (E / 10), Z, Nat.mul_ne_zero (t0 _) (t0 _), hZ2, by rw [sg_abs]; exact up (valT_lt _), mu (tp (by omega)) (tp (by omega)), fun W => rparse_small hs (by omega) hl hw hE (by omega) ho hxe h0 rfl⟩
    · exact .inr ⟨sg b (valT (wh ++ pt)), 10 ^ pt.length, Z, t0 _, hZ2, by rw [sg_abs]; exact up (valT_lt _), up (tp (by omega)), fun W => rparse_none hs (by omega) hl hw hE (by omega) ho hxe⟩
/-- Digits, and what is behind them. -/
theorem digs_app {D : List UInt8} (h : allDig D = true) (c : UInt8) (t : List UInt8) (hc : digB c = false) : digs (D ++ c :: t) = D ∧ rest (D ++ c :: t) = c :: t := by
  induction D with
  | nil => unfold digs rest; simp [hc]
  | cons x D ih =>
    unfold allDig at h
    rw [List.all_cons, Bool.and_eq_true] at h
    obtain ⟨i1, i2⟩ := ih h.2
    unfold digs at i1
    unfold rest at i2
    unfold digs rest
    simp only [List.cons_append, List.takeWhile_cons, List.dropWhile_cons, h.1, if_true, i1, i2, and_self]
theorem digs_all {D : List UInt8} (h : allDig D = true) : digs D = D ∧ rest D = [] := by
  induction D with
  | nil => exact ⟨rfl, rfl⟩
  | cons x D ih =>
    unfold allDig at h
    rw [List.all_cons, Bool.and_eq_true] at h
    obtain ⟨i1, i2⟩ := ih h.2
    unfold digs at i1
    unfold rest at i2
    unfold digs rest
    simp only [List.takeWhile_cons, List.dropWhile_cons, h.1, if_true, i1, i2, and_self]
theorem dig_head (n : Nat) : ∃ c l, Lib.decDigits n = c :: l ∧ 48 ≤ c.toNat ∧ c.toNat ≤ 57 := by
  obtain ⟨h1, -, h3⟩ := dec_all (n + 1) n (Nat.lt_succ_self n)
  cases h : Lib.decDigits n with
  | nil => exact absurd h h3
  | cons c l =>
    rw [h] at h1
    have h2 := allDig_get h1 (k := 0) (by simp)
    exact ⟨c, l, rfl, by simpa using h2.1, by simpa using h2.2⟩
/-- A whole number's text, with something behind it. -/
theorem cut_sign (z : Int) (t : List UInt8) : cutC [43, 45] ((textZ z).data.toList ++ t) = (decide (z < 0), Lib.decDigits z.natAbs ++ t) ∧ ((((textZ z).data.toList ++ t).head? == some 45) = decide (z < 0)) := by
  obtain ⟨c, l, h, h1, h2⟩ := dig_head z.natAbs
  unfold textZ
  by_cases hz : z < 0
  · rw [if_pos hz, decide_eq_true hz]
    rw [Go.Joins.data_append]
    exact ⟨rfl, rfl⟩
  · rw [if_neg hz, decide_eq_false hz]
    show cutC [43, 45] (Lib.decDigits z.natAbs ++ t) = _ ∧ ((Lib.decDigits z.natAbs ++ t).head? == some 45) = _
    rw [h]
    have n1 : c ≠ 43 := by rintro rfl; simp at h1
    have n2 : c ≠ 45 := by rintro rfl; simp at h1
    refine ⟨?_, ?_⟩
    · show (if [43, 45].contains c then (true, l ++ t) else (false, c :: (l ++ t))) = _
      rw [if_neg (by simp [n1, n2])]
      rfl
    · show (some c == some 45) = false
      simp [n2]
theorem qn_co {z : Int} {n : Nat} (h : Nat.gcd z.natAbs n = 1) : qn z n = z ∧ qd z n = n := by
  unfold qn qd
  rw [h, Nat.div_one, Nat.div_one, sg_form]
  exact ⟨rfl, rfl⟩
theorem valT_dec {n : Nat} (h : (Lib.decDigits n).length ≤ 200) : valT (Lib.decDigits n) = n := by
  obtain ⟨h1, h2, h3⟩ := dec_all (n + 1) n (Nat.lt_succ_self n)
  unfold valT
  rw [if_pos (err_good h1 (by intro e; exact h3 (List.eq_nil_of_length_eq_zero e)) (by omega)), h2]
theorem dec_ne (n : Nat) : (Lib.decDigits n).isEmpty = false := by
  obtain ⟨c, l, h, -, -⟩ := dig_head n
  rw [h]; rfl
theorem text_split1 (z : Int) (hM : (Lib.decDigits z.natAbs).length ≤ 9223372036854775000) : SplitSays (textZ z) (decide (z < 0)) false (Lib.decDigits z.natAbs) [] [] [] (Lib.decDigits z.natAbs).length true := by
  obtain ⟨h1, -, -⟩ := dec_all (z.natAbs + 1) z.natAbs (Nat.lt_succ_self _)
  obtain ⟨d1, d2⟩ := digs_all h1
  have c := cut_sign z []
  rw [List.append_nil, List.append_nil] at c
  have hl : (textZ z).data.toList.length ≤ 9223372036854775807 := by
    unfold textZ; split
    · rw [Go.Joins.data_append]; simp; omega
    · simp; omega
  intro W
  have h := split_000_122 (w := W) (l3 := []) (l4 := []) (l5 := []) (l6 := []) (l7 := []) (pt := []) (ex := []) (s5 := false) (sm := false) (yb1 := false) (yb2 := false) (yb3 := false) hl c.2 c.1 d1 d2 rfl rfl rfl (dec_ne _) rfl
  rwa [st_eta] at h
theorem text_split2 (z : Int) (n : Nat) (hM : (Lib.decDigits z.natAbs).length + (Lib.decDigits n).length ≤ 9223372036854775000) :
    SplitSays (textZ z ++ ByteArray.mk #[47] ++ decT n) (decide (z < 0)) false (Lib.decDigits z.natAbs) [] [] (Lib.decDigits n) ((Lib.decDigits z.natAbs).length + (Lib.decDigits n).length) true := by
  obtain ⟨h1, -, -⟩ := dec_all (z.natAbs + 1) z.natAbs (Nat.lt_succ_self _)
  obtain ⟨h2, -, -⟩ := dec_all (n + 1) n (Nat.lt_succ_self _)
  obtain ⟨d1, d2⟩ := digs_app h1 47 (Lib.decDigits n) rfl
  obtain ⟨d3, d4⟩ := digs_all h2
  have c := cut_sign z (47 :: Lib.decDigits n)
  have e : (textZ z ++ ByteArray.mk #[47] ++ decT n).data.toList = (textZ z).data.toList ++ 47 :: Lib.decDigits n := by
    rw [Go.Joins.data_append, Go.Joins.data_append, List.append_assoc]
    simp [decT]
  rw [← e] at c
  have hl : (textZ z ++ ByteArray.mk #[47] ++ decT n).data.toList.length ≤ 9223372036854775807 := by
    rw [e, List.length_append]
    unfold textZ; split
    · rw [Go.Joins.data_append]; simp; omega
    · simp; omega
  intro W
  have h := split_100_112 (w := W) (l5 := []) (l6 := []) (l7 := []) (ex := []) (s5 := false) (sm := false) (yb1 := false) (yb2 := false) (yb3 := false) hl c.2 c.1 d1 d2 rfl d3 d4 (dec_ne _) (dec_ne _) rfl
  rwa [st_eta] at h
/-- A fraction's text is read as that fraction, or it is too long. -/
theorem rparse_text {z : Int} {n : Nat} (h0 : n ≠ 0) (hg : Nat.gcd z.natAbs n = 1) (hM : (Lib.decDigits z.natAbs).length + (Lib.decDigits n).length ≤ 9223372036854775000) :
    (Gives (textQ z n) z n) ∨ (Refuses (textQ z n) 1 ∧ 200 < (textQ z n).size) := by
  have hE : valT (([] : List UInt8) ++ [48]) = 0 := by decide +kernel
  have hz : sg (decide (z < 0)) z.natAbs = z := sg_form z
  have q := qn_co hg
  have sz : (Lib.decDigits z.natAbs).length ≤ (textZ z).size := by
    have hsz := size_toArray (Lib.decDigits z.natAbs)
    unfold textZ; split
    · rw [app_size]; omega
    · omega
  by_cases h1 : n = 1
  · have et : textQ z n = textZ z := by unfold textQ; rw [if_pos h1]
    rw [et]
    have hs := text_split1 z (by omega)
    by_cases hl : (Lib.decDigits z.natAbs).length ≤ 200
    · left
      intro W
      have h := rparse_none (w := W) hs hl (by simpa using hl) (ne_len (dec_ne _)) hE (by decide) rfl rfl
      rw [List.append_nil, valT_dec hl, hz] at h
      rw [h1] at q ⊢
      rw [show (10 : Nat) ^ ([] : List UInt8).length = 1 from rfl, q.1, q.2] at h
      exact h
    · exact .inr ⟨fun W => rparse_longd hs hE (by omega) (by simp), by omega⟩
  · have et : textQ z n = textZ z ++ ByteArray.mk #[47] ++ decT n := by unfold textQ; rw [if_neg h1]
    rw [et]
    have hs := text_split2 z n hM
    have s2 : (decT n).size = (Lib.decDigits n).length := by unfold decT; rw [size_toArray]
    by_cases hl : (Lib.decDigits z.natAbs).length + (Lib.decDigits n).length ≤ 200
    · left
      intro W
      have hv := valT_dec (n := n) (by omega)
      have h := rparse_over (w := W) hs hl (by simpa using hl) (ne_len (dec_ne _)) hE (by decide) (dec_ne _) (by rw [hv]; exact h0)
      rw [valT_dec (by omega), hv, hz, q.1, q.2] at h
      exact h
    · exact .inr ⟨fun W => rparse_longd hs hE (by omega) (by simp), by rw [app_size, app_size, s2]; omega⟩
/-- The lowest terms have no common divisor. -/
theorem low_co (z : Int) {n : Nat} (h : n ≠ 0) : Nat.gcd (qn z n).natAbs (qd z n) = 1 := by
  rw [qn_abs]
  unfold qd
  have h2 : 0 < Nat.gcd z.natAbs n := Nat.gcd_pos_of_pos_right _ (Nat.pos_of_ne_zero h)
  exact Nat.coprime_div_gcd_div_gcd h2
end

section
open Go Go.RowKit Go.Proofs Pl
set_option linter.unusedVariables false
theorem den_same {n : Nat} (h : n ≠ 0) : den n = n := by unfold den; rw [if_neg h]
/-- The text of a fraction in its lowest terms. -/
theorem qtext_low {w : World} {L : Nat} {v : Value} {z : Int} {n : Nat} (ht : Tab w) (hq : Qo w v z n) (h0 : n ≠ 0) (hg : Nat.gcd z.natAbs n = 1) (hz : z.natAbs < WB ^ L) (hn : n < WB ^ L) (h1 : 0 < L) (hL : L ≤ 1048576) :
    Calls Tryd.prog 18 #[v] w fun e w' => e = .returned (.string (textQ z n)) ∧ Below w.heap.size w w' := by
  have h := qtext_q ht hq.ql (dg_length_le WB_one hz) (dg_length_le WB_one hn) h1 hL
  rw [val_dg WB_one, val_dg WB_one, sg_form, den_same h0, (qn_co hg).1, (qn_co hg).2] at h
  exact h
end
end Go.Proofs.YtclaiidoomdklaaDoor
