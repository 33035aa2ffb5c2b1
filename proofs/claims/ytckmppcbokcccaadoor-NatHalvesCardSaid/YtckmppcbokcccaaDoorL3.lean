/-
  The laws NatSquares, NatGcds, NatHalves, walked.
-/
import Derived.Test.YtckmppcbokcccaaDoorL2
namespace Go.Proofs.YtckmppcbokcccaaDoor
open Go Go.RowKit Go.Proofs Pl
set_option linter.unusedVariables false

theorem squares_eq {m n : Nat} (h : n ≤ m) : (m + n) * (m - n) = m * m - n * n := by
  obtain ⟨d, rfl⟩ : ∃ d, m = n + d := ⟨m - n, by omega⟩
  rw [Nat.add_sub_cancel_left, Nat.add_mul, Nat.add_mul, Nat.add_mul, Nat.mul_add, Nat.mul_add, Nat.mul_comm d n]
  omega

set_option maxRecDepth 100000 in
set_option maxHeartbeats 1000000 in
theorem natSquares_main {L m n : Nat} {a b : Value} (w : World) (ht : Tab w) (hL : L ≤ 1048576) (ha : Nm w L a m) (hb : Nm w L b n) :
    Calls Tryd.prog 12 #[a, b] w fun e w' => e = .returned (.bool true) ∧ Below w.heap.size w w' := by
  have HT := Lib.hid ht
  have zm := ha.lt
  have zn := hb.lt
  have HI := Lib.hid (And.intro ha hb)
  have HZ := Lib.hid (And.intro zm zn)
  clear ht ha hb zm zn
  go_enter Tryd.func12, Tryd.ntmps12
  go_wp2_with fail
  refine (speaks_any w HT.out).mono ?_; rintro e w1 ⟨rfl, hb⟩
  have I1 := Lib.hid (And.intro (HI.out.1.keep hb) (And.intro (HI.out.2.keep hb) hb))
  clear hb HI HT
  go_wp2_with fail
  by_cases hlt : m < n
  · have hs := sub_nm I1.out.1 I1.out.2.1 (by omega)
    rw [show subErr m n = 4 from by simp [subErr, hlt], show m - n = 0 from by omega] at hs
    refine hs.mono ?_; rintro e w2 ⟨v2, rfl, h2⟩
    have h3 := h2.1
    rw [dg_zero] at h3
    obtain ⟨A2, c2, rfl, -, -⟩ := h3.slice
    have I2 := Lib.hid (And.intro (I1.out.1.keep h2.2) (And.intro (I1.out.2.1.keep h2.2) (below_trans I1.out.2.2 h2.2)))
    have HLT := Lib.hid hlt
    clear hs h2 h3 I1 hlt
    go_wp2_with fail
    have hc := cmp_nm I2.out.1 I2.out.2.1
    rw [show cmpN m n = -1 from by simp [cmpN, HLT.out]] at hc
    refine hc.mono ?_; rintro e w3 ⟨rfl, hb⟩
    have I3 := Lib.hid (below_trans I2.out.2.2 hb)
    clear hc hb I2
    go_wp2_with fail
    go_ret
    exact ⟨rfl, I3.out⟩
  · have hs := sub_nm I1.out.1 I1.out.2.1 (by omega)
    rw [show subErr m n = 0 from by simp [subErr, hlt]] at hs
    refine hs.mono ?_; rintro e w2 ⟨v2, rfl, h2⟩
    have I2 := Lib.hid (And.intro (I1.out.1.keep h2.2) (And.intro (I1.out.2.1.keep h2.2) (And.intro (below_trans I1.out.2.2 h2.2) (h2.nm (L := L) (le_lt (Nat.sub_le _ _) HZ.out.1)))))
    have HLT := Lib.hid hlt
    clear hs h2 I1 hlt
    go_wp2_with fail
    refine (mul_nm I2.out.1 I2.out.1 (by omega) (by omega)).mono ?_; rintro e w3 ⟨v3, rfl, h3⟩
    have I3 := Lib.hid (And.intro (I2.out.1.keep h3.2) (And.intro (I2.out.2.1.keep h3.2) (And.intro (below_trans I2.out.2.2.1 h3.2) (And.intro (I2.out.2.2.2.keep h3.2) (h3.nm (prod_lt HZ.out.1 HZ.out.1))))))
    clear h3 I2
    go_wp2_with fail
    refine (mul_nm I3.out.2.1 I3.out.2.1 (by omega) (by omega)).mono ?_; rintro e w4 ⟨v4, rfl, h4⟩
    have I4 := Lib.hid (And.intro (I3.out.1.keep h4.2) (And.intro (I3.out.2.1.keep h4.2) (And.intro (below_trans I3.out.2.2.1 h4.2) (And.intro (I3.out.2.2.2.1.keep h4.2) (And.intro (I3.out.2.2.2.2.keep h4.2) (h4.nm (prod_lt HZ.out.2 HZ.out.2)))))))
    clear h4 I3
    go_wp2_with fail
    have hs := sub_nm I4.out.2.2.2.2.1 I4.out.2.2.2.2.2 (by omega)
    have hsq : n * n ≤ m * m := Nat.mul_le_mul (by have := HLT.out; omega) (by have := HLT.out; omega)
    rw [show subErr (m * m) (n * n) = 0 from by simp [subErr]; omega] at hs
    refine hs.mono ?_; rintro e w5 ⟨v5, rfl, h5⟩
    have I5 := Lib.hid (And.intro (I4.out.1.keep h5.2) (And.intro (I4.out.2.1.keep h5.2) (And.intro (below_trans I4.out.2.2.1 h5.2) (And.intro (I4.out.2.2.2.1.keep h5.2) h5.nl))))
    clear hs h5 I4 hsq
    go_wp2_with fail
    refine (add_nm I5.out.1 I5.out.2.1 (by omega) (by omega)).mono ?_; rintro e w6 ⟨v6, rfl, h6⟩
    have I6 := Lib.hid (And.intro (below_trans I5.out.2.2.1 h6.2) (And.intro (I5.out.2.2.2.1.keep h6.2) (And.intro (I5.out.2.2.2.2.keep h6.2) (h6.nm (sum_lt WB_one HZ.out.1 HZ.out.2 (Nat.le_refl _) (Nat.le_refl _))))))
    clear h6 I5
    go_wp2_with fail
    refine (mul_nm I6.out.2.2.2 I6.out.2.1 (by omega) (by omega)).mono ?_; rintro e w7 ⟨v7, rfl, h7⟩
    have I7 := Lib.hid (And.intro (below_trans I6.out.1 h7.2) (And.intro (I6.out.2.2.1.keep h7.2) h7.nl))
    clear h7 I6
    go_wp2_with fail
    refine (same_yes I7.out.2.2 I7.out.2.1 (by rw [squares_eq (by have := HLT.out; omega)])).mono ?_; rintro e w8 ⟨rfl, hb⟩
    have I8 := Lib.hid (below_trans I7.out.1 hb)
    clear hb I7
    go_wp2_with fail
    go_ret
    exact ⟨rfl, I8.out⟩
theorem natSquares_walk (w : World) (ht : Tab w) {a b : Value} {xs ys : List Nat} (ha : Nl w a xs) (la : xs.length ≤ 1048576) (hb : Nl w b ys) (lb : ys.length ≤ 1048576) :
    Calls Tryd.prog 12 #[a, b] w fun e w' => e = .returned (.bool true) ∧ Below w.heap.size w w' := by
  obtain ⟨L, hL⟩ : ∃ L, L = 1048576 := ⟨_, rfl⟩
  rw [← hL] at la lb
  exact natSquares_main w ht (by omega) (ha.nm.mono la) (hb.nm.mono lb)

set_option maxRecDepth 100000 in
set_option maxHeartbeats 1000000 in
theorem natGcds_small {l m n x y z : Nat} {a b c : Value} (w : World) (ht : Tab w) (hx : x ≤ 30) (hy : y ≤ 30) (hz : z ≤ 30) (A B C : Option Addr) (ca cb cc : Nat) (ea : a = .slice A x ca) (eb : b = .slice B y cb) (ec : c = .slice C z cc) (ha : Nm w 30 a l) (hb : Nm w 30 b m) (hc : Nm w 30 c n) :
    Calls Tryd.prog 10 #[a, b, c] w fun e w' => e = .returned (.bool true) ∧ Below w.heap.size w w' := by
  have HT := Lib.hid ht
  have zl := ha.lt
  have zm := hb.lt
  have zn := hc.lt
  have HI := Lib.hid (And.intro ha (And.intro hb hc))
  have HZ := Lib.hid (And.intro zl (And.intro zm zn))
  have i1 : (x : Int) ≤ 30 := by omega
  have i2 : (y : Int) ≤ 30 := by omega
  have i3 : (z : Int) ≤ 30 := by omega
  clear ht ha hb hc zl zm zn hx hy hz
  subst ea; subst eb; subst ec
  go_enter Tryd.func10, Tryd.ntmps10
  go_wp2_with fail
  refine (speaks_any w HT.out).mono ?_; rintro e w1 ⟨rfl, hb⟩
  have I1 := Lib.hid (And.intro (HI.out.1.keep hb) (And.intro (HI.out.2.1.keep hb) (And.intro (HI.out.2.2.keep hb) hb)))
  clear hb HI HT
  go_wp2_with fail
  refine (gcd_nm I1.out.1 I1.out.2.1 (by omega) (by omega)).mono ?_; rintro e w2 ⟨v2, rfl, h2⟩
  by_cases h0 : Nat.gcd l m = 0
  · obtain ⟨l0, m0⟩ := Nat.gcd_eq_zero_iff.1 h0
    have h3 := h2.1
    rw [h0, dg_zero] at h3
    obtain ⟨A2, c2, rfl, -, -⟩ := h3.slice
    have I2 := Lib.hid (And.intro (I1.out.1.keep h2.2) (And.intro (I1.out.2.1.keep h2.2) (below_trans I1.out.2.2.2 h2.2)))
    have H0 := Lib.hid (And.intro l0 m0)
    clear h2 h3 I1 h0 l0 m0
    go_wp2_with fail
    refine (trim_nm I2.out.1 (by omega)).mono ?_; rintro e w3 ⟨v3, rfl, h4⟩
    have h5 := h4.1
    rw [H0.out.1, dg_zero] at h5
    obtain ⟨A3, c3, rfl, -, -⟩ := h5.slice
    have I3 := Lib.hid (And.intro (I2.out.2.1.keep h4.2) (below_trans I2.out.2.2 h4.2))
    clear h4 h5 I2
    go_wp2_with fail
    refine (trim_nm I3.out.1 (by omega)).mono ?_; rintro e w4 ⟨v4, rfl, h4⟩
    have h5 := h4.1
    rw [H0.out.2, dg_zero] at h5
    obtain ⟨A4, c4, rfl, -, -⟩ := h5.slice
    have I4 := Lib.hid (below_trans I3.out.2 h4.2)
    clear h4 h5 I3
    go_wp2_with fail
    go_ret
    exact ⟨rfl, I4.out⟩
  · have hg1 : Nat.gcd l m < WB ^ 30 := by
      rcases Nat.eq_zero_or_pos l with hl | hl
      · rw [hl, Nat.gcd_zero_left]; exact HZ.out.2.1
      · exact Nat.lt_of_le_of_lt (Nat.gcd_le_left m hl) HZ.out.1
    have hr : l % Nat.gcd l m = 0 := Nat.mod_eq_zero_of_dvd (Nat.gcd_dvd_left l m)
    have hs : m % Nat.gcd l m = 0 := Nat.mod_eq_zero_of_dvd (Nat.gcd_dvd_right l m)
    have hgm : Nat.gcd (l * n) (m * n) = Nat.gcd l m * n := Nat.gcd_mul_right l n m
    obtain ⟨g, hg⟩ : ∃ g, g = Nat.gcd l m := ⟨_, rfl⟩
    rw [← hg] at h0 hg1 hr hs hgm h2
    obtain ⟨A2, c2, rfl, -, -⟩ := h2.1.slice
    have hgl : (dg WB g).length ≠ 0 := fun e => h0 ((dg_eq_nil WB_one g).1 (List.eq_nil_of_length_eq_zero e))
    have h2n := h2.nm hg1
    obtain ⟨lg, hlg⟩ : ∃ lg, lg = (dg WB g).length := ⟨_, rfl⟩
    rw [← hlg] at hgl h2n ⊢
    have hgb : ((lg : Int) == 0) = false := by simp; omega
    have I2 := Lib.hid (And.intro (I1.out.1.keep h2.2) (And.intro (I1.out.2.1.keep h2.2) (And.intro (I1.out.2.2.1.keep h2.2) (And.intro (below_trans I1.out.2.2.2 h2.2) h2n))))
    have Z := Lib.hid (And.intro hr (And.intro hs (And.intro hgm h0)))
    clear h2 h2n I1 hr hs hgm h0 hg hlg hgl hg1
    go_wp2_with fail
    have hd := divMod_nm I2.out.1 I2.out.2.2.2.2 (by omega) Z.out.2.2.2
    rw [Z.out.1] at hd
    refine hd.mono ?_; rintro e w3 ⟨q3, r3, rfl, hq, hr⟩
    have h5 := hr.1
    rw [dg_zero] at h5
    obtain ⟨A3, c3, rfl, -, -⟩ := h5.slice
    have I3 := Lib.hid (And.intro (I2.out.1.keep hq.2) (And.intro (I2.out.2.1.keep hq.2) (And.intro (I2.out.2.2.1.keep hq.2) (And.intro (below_trans I2.out.2.2.2.1 hq.2) (I2.out.2.2.2.2.keep hq.2)))))
    clear hd hq hr h5 I2
    go_wp2_with fail
    have hd := divMod_nm I3.out.2.1 I3.out.2.2.2.2 (by omega) Z.out.2.2.2
    rw [Z.out.2.1] at hd
    refine hd.mono ?_; rintro e w4 ⟨q4, r4, rfl, hq, hr⟩
    have h5 := hr.1
    rw [dg_zero] at h5
    obtain ⟨A4, c4, rfl, -, -⟩ := h5.slice
    have I4 := Lib.hid (And.intro (I3.out.1.keep hq.2) (And.intro (I3.out.2.1.keep hq.2) (And.intro (I3.out.2.2.1.keep hq.2) (And.intro (below_trans I3.out.2.2.2.1 hq.2) (I3.out.2.2.2.2.keep hq.2)))))
    clear hd hq hr h5 I3
    go_wp2_with fail
    refine (mul_nm I4.out.1 I4.out.2.2.1 (by omega) (by omega)).mono ?_; rintro e w5 ⟨v5, rfl, h5⟩
    have I5 := Lib.hid (And.intro (I4.out.2.1.keep h5.2) (And.intro (I4.out.2.2.1.keep h5.2) (And.intro (below_trans I4.out.2.2.2.1 h5.2) (And.intro (I4.out.2.2.2.2.keep h5.2) (h5.nm (prod_lt HZ.out.1 HZ.out.2.2))))))
    clear h5 I4
    go_wp2_with fail
    refine (mul_nm I5.out.1 I5.out.2.1 (by omega) (by omega)).mono ?_; rintro e w6 ⟨v6, rfl, h6⟩
    have I6 := Lib.hid (And.intro (I5.out.2.1.keep h6.2) (And.intro (below_trans I5.out.2.2.1 h6.2) (And.intro (I5.out.2.2.2.1.keep h6.2) (And.intro (I5.out.2.2.2.2.keep h6.2) (h6.nm (prod_lt HZ.out.2.1 HZ.out.2.2))))))
    clear h6 I5
    go_wp2_with fail
    have hgc := gcd_nm I6.out.2.2.2.1 I6.out.2.2.2.2 (by omega) (by omega)
    rw [Z.out.2.2.1] at hgc
    refine hgc.mono ?_; rintro e w7 ⟨v7, rfl, h7⟩
    have I7 := Lib.hid (And.intro (I6.out.1.keep h7.2) (And.intro (below_trans I6.out.2.1 h7.2) (And.intro (I6.out.2.2.1.keep h7.2) h7.nl)))
    clear hgc h7 I6
    go_wp2_with fail
    refine (mul_nm I7.out.2.2.1 I7.out.1 (by omega) (by omega)).mono ?_; rintro e w8 ⟨v8, rfl, h8⟩
    have I8 := Lib.hid (And.intro (below_trans I7.out.2.1 h8.2) (And.intro (I7.out.2.2.2.keep h8.2) h8.nl))
    clear h8 I7
    go_wp2_with fail
    refine (same_yes I8.out.2.1 I8.out.2.2 rfl).mono ?_; rintro e w9 ⟨rfl, hb⟩
    have I9 := Lib.hid (below_trans I8.out.1 hb)
    clear hb I8
    go_wp2_with fail
    go_ret
    exact ⟨rfl, I9.out⟩

theorem natGcds_early {x y z : Nat} (w : World) (ht : Tab w) (A B C : Option Addr) (ca cb cc : Nat) (h : ¬ (x ≤ 30 ∧ y ≤ 30 ∧ z ≤ 30)) :
    Calls Tryd.prog 10 #[.slice A x ca, .slice B y cb, .slice C z cc] w fun e w' => e = .returned (.bool true) ∧ Below w.heap.size w w' := by
  have HS := Lib.hid (speaks_any w ht)
  clear ht
  by_cases h1 : x ≤ 30
  · have i1 : (x : Int) ≤ 30 := by omega
    by_cases h2 : y ≤ 30
    · have i2 : (y : Int) ≤ 30 := by omega
      have i3 : (30 : Int) < (z : Int) := by omega
      clear h h1 h2
      go_enter Tryd.func10, Tryd.ntmps10
      go_wp2_with fail
      refine HS.out.mono ?_; rintro e w1 ⟨rfl, hb⟩
      have HB := Lib.hid hb
      clear hb
      go_wp2_with fail
      go_ret
      exact ⟨rfl, HB.out⟩
    · have i2 : (30 : Int) < (y : Int) := by omega
      clear h h1 h2
      go_enter Tryd.func10, Tryd.ntmps10
      go_wp2_with fail
      refine HS.out.mono ?_; rintro e w1 ⟨rfl, hb⟩
      have HB := Lib.hid hb
      clear hb
      go_wp2_with fail
      go_ret
      exact ⟨rfl, HB.out⟩
  · have i1 : (30 : Int) < (x : Int) := by omega
    clear h h1
    go_enter Tryd.func10, Tryd.ntmps10
    go_wp2_with fail
    refine HS.out.mono ?_; rintro e w1 ⟨rfl, hb⟩
    have HB := Lib.hid hb
    clear hb
    go_wp2_with fail
    go_ret
    exact ⟨rfl, HB.out⟩
theorem natGcds_walk (w : World) (ht : Tab w) {a b c : Value} {xs ys zs : List Nat} (ha : Nl w a xs) (hb : Nl w b ys) (hc : Nl w c zs) :
    Calls Tryd.prog 10 #[a, b, c] w fun e w' => e = .returned (.bool true) ∧ Below w.heap.size w w' := by
  have na := ha.nm
  have nb' := hb.nm
  have nc := hc.nm
  obtain ⟨A, ca, ea, -⟩ := ha
  obtain ⟨B, cb, eb, -⟩ := hb
  obtain ⟨C, cc, ec, -⟩ := hc
  by_cases h : xs.length ≤ 30 ∧ ys.length ≤ 30 ∧ zs.length ≤ 30
  · exact natGcds_small w ht h.1 h.2.1 h.2.2 A B C ca cb cc ea eb ec (na.mono h.1) (nb'.mono h.2.1) (nc.mono h.2.2)
  · subst ea; subst eb; subst ec
    exact natGcds_early w ht A B C ca cb cc h

set_option maxRecDepth 100000 in
set_option maxHeartbeats 1000000 in
theorem natHalves_small {m x k : Nat} {a : Value} (w : World) (ht : Tab w) (hx : x ≤ 90) (hk : k ≤ 6000) (A : Option Addr) (ca : Nat) (ea : a = .slice A x ca) (ha : Nm w 90 a m) :
    Calls Tryd.prog 14 #[a, .int .i64 (k : Int)] w fun e w' => e = .returned (.bool true) ∧ Below w.heap.size w w' := by
  have HT := Lib.hid ht
  have zm := ha.lt
  have HI := Lib.hid ha
  have i1 : (x : Int) ≤ 90 := by omega
  have i2 : (k : Int) ≤ 6000 := by omega
  have i3 : (0 : Int) ≤ (k : Int) := by omega
  have hp : 0 < 2 ^ k := Nat.pow_pos (by decide)
  have hback : m / 2 ^ k * 2 ^ k + m % 2 ^ k = m := by rw [Nat.mul_comm]; exact Nat.div_add_mod m _
  have h1 : m / 2 ^ k < WB ^ 90 := le_lt (Nat.div_le_self _ _) zm
  have h2 : m / 2 ^ k * 2 ^ k < WB ^ 90 := le_lt (by omega) zm
  have h3 : m % 2 ^ k < WB ^ 90 := le_lt (Nat.mod_le _ _) zm
  have h4 : 1 * 2 ^ k < WB ^ (k + 1) := by
    rw [Nat.one_mul]
    have e1 : 2 ^ k ≤ WB ^ k := Nat.pow_le_pow_left WB_one k
    have e2 : WB ^ k * 1 < WB ^ k * WB := Nat.mul_lt_mul_of_pos_left WB_one (Nat.pow_pos WB_pos)
    rw [Nat.pow_succ]; omega
  have h5 : nb (m % 2 ^ k) ≤ k := nb_le_of_lt (Nat.mod_lt _ hp)
  have Z := Lib.hid (And.intro hback (And.intro h1 (And.intro h2 (And.intro h3 (And.intro h4 (And.intro h5 (And.intro hp zm)))))))
  clear ht ha zm hx hp hback h1 h2 h3 h4 h5
  subst ea
  go_enter Tryd.func14, Tryd.ntmps14
  go_wp2_with fail
  refine (speaks_any w HT.out).mono ?_; rintro e w1 ⟨rfl, hb⟩
  have I1 := Lib.hid (And.intro (HI.out.keep hb) hb)
  clear hb HI HT
  go_wp2_with fail
  refine (shr_nm I1.out.1 (by omega) (by omega)).mono ?_; rintro e w2 ⟨v2, rfl, h2⟩
  have I2 := Lib.hid (And.intro (I1.out.1.keep h2.2) (And.intro (below_trans I1.out.2 h2.2) (h2.nm Z.out.2.1)))
  clear h2 I1
  go_wp2_with fail
  refine (shl_nm I2.out.2.2 (by omega) (by omega)).mono ?_; rintro e w3 ⟨v3, rfl, h3⟩
  have I3 := Lib.hid (And.intro (I2.out.1.keep h3.2) (And.intro (below_trans I2.out.2.1 h3.2) (h3.nm Z.out.2.2.1)))
  clear h3 I2
  go_wp2_with fail
  refine (shl_nm (nm_one w3 1 (word_lt (by decide))) (by omega) (by omega)).mono ?_; rintro e w4 ⟨v4, rfl, h4⟩
  have hb4 := below_trans (below_al w3 _) h4.2
  have I4 := Lib.hid (And.intro (I3.out.1.keep hb4) (And.intro (below_trans I3.out.2.1 hb4) (And.intro (I3.out.2.2.keep hb4) (h4.nm (L := k + 1) Z.out.2.2.2.2.1))))
  clear h4 hb4 I3
  go_wp2_with fail
  have hd := divMod_nm I4.out.1 I4.out.2.2.2 (by omega) (by have := Z.out.2.2.2.2.2.2.1; omega)
  rw [Nat.one_mul] at hd
  refine hd.mono ?_; rintro e w5 ⟨q5, r5, rfl, hq, hr⟩
  have I5 := Lib.hid (And.intro (I4.out.1.keep hq.2) (And.intro (below_trans I4.out.2.1 hq.2) (And.intro (I4.out.2.2.1.keep hq.2) (hr.nm Z.out.2.2.2.1))))
  clear hd hq hr I4
  go_wp2_with fail
  refine (add_nm I5.out.2.2.1 I5.out.2.2.2 (by omega) (by omega)).mono ?_; rintro e w6 ⟨v6, rfl, h6⟩
  have h7 := h6.nm (L := 90) (by rw [Z.out.1]; exact Z.out.2.2.2.2.2.2.2)
  have I6 := Lib.hid (And.intro (I5.out.1.keep h6.2) (And.intro (below_trans I5.out.2.1 h6.2) (And.intro (I5.out.2.2.2.keep h6.2) h7)))
  clear h6 h7 I5
  go_wp2_with fail
  have hc1 := cmp_nm I6.out.2.2.2 I6.out.1
  rw [Z.out.1, show cmpN m m = 0 from by simp [cmpN]] at hc1
  refine hc1.mono ?_; rintro e w7 ⟨rfl, hb⟩
  have I7 := Lib.hid (And.intro (below_trans I6.out.2.1 hb) (I6.out.2.2.1.keep hb))
  clear hb hc1 I6
  go_wp2_with fail
  have hbt := bits_nm I7.out.2 (by omega)
  obtain ⟨nn, hnn⟩ : ∃ nn, nn = nb (m % 2 ^ k) := ⟨_, rfl⟩
  rw [← hnn] at hbt
  have i4 : (nn : Int) ≤ (k : Int) := by have := Z.out.2.2.2.2.2.1; omega
  refine hbt.mono ?_; rintro e w8 ⟨rfl, hb⟩
  have I8 := Lib.hid (below_trans I7.out.1 hb)
  clear hb hbt I7 hnn
  go_wp2_with fail
  go_ret
  first
    | exact ⟨rfl, I8.out⟩
    | refine ⟨?_, I8.out⟩
      show Ending.returned (.bool (decide ((nn : Int) ≤ (k : Int)))) = _
      rw [decide_eq_true i4]
theorem natHalves_early {x : Nat} {n : Int} (w : World) (ht : Tab w) (A : Option Addr) (ca : Nat) (h : ¬ (x ≤ 90 ∧ 0 ≤ n ∧ n ≤ 6000)) :
    Calls Tryd.prog 14 #[.slice A x ca, .int .i64 n] w fun e w' => e = .returned (.bool true) ∧ Below w.heap.size w w' := by
  have HS := Lib.hid (speaks_any w ht)
  clear ht
  by_cases h1 : x ≤ 90
  · have i1 : (x : Int) ≤ 90 := by omega
    by_cases h2 : 0 ≤ n
    · have i3 : (6000 : Int) < n := by omega
      clear h h1
      go_enter Tryd.func14, Tryd.ntmps14
      go_wp2_with fail
      refine HS.out.mono ?_; rintro e w1 ⟨rfl, hb⟩
      have HB := Lib.hid hb
      clear hb
      go_wp2_with fail
      go_ret
      exact ⟨rfl, HB.out⟩
    · have i2 : n < 0 := by omega
      clear h h1 h2
      go_enter Tryd.func14, Tryd.ntmps14
      go_wp2_with fail
      refine HS.out.mono ?_; rintro e w1 ⟨rfl, hb⟩
      have HB := Lib.hid hb
      clear hb
      go_wp2_with fail
      go_ret
      exact ⟨rfl, HB.out⟩
  · have i1 : (90 : Int) < (x : Int) := by omega
    clear h h1
    go_enter Tryd.func14, Tryd.ntmps14
    go_wp2_with fail
    refine HS.out.mono ?_; rintro e w1 ⟨rfl, hb⟩
    have HB := Lib.hid hb
    clear hb
    go_wp2_with fail
    go_ret
    exact ⟨rfl, HB.out⟩
theorem natHalves_walk (w : World) (ht : Tab w) {a : Value} {xs : List Nat} (ha : Nl w a xs) (n : Int) (hn : -9223372036854775808 ≤ n ∧ n ≤ 9223372036854775807) :
    Calls Tryd.prog 14 #[a, .int .i64 n] w fun e w' => e = .returned (.bool true) ∧ Below w.heap.size w w' := by
  have na := ha.nm
  obtain ⟨A, ca, ea, -⟩ := ha
  by_cases h : xs.length ≤ 90 ∧ 0 ≤ n ∧ n ≤ 6000
  · obtain ⟨k, rfl⟩ := Int.eq_ofNat_of_zero_le h.2.1
    exact natHalves_small w ht h.1 (by omega) A ca ea (na.mono h.1)
  · subst ea
    exact natHalves_early w ht A ca h
end Go.Proofs.YtckmppcbokcccaaDoor
