/-
  The laws NatRings, NatBack, NatSquares, walked.
-/
import Derived.Test.YtckmppcbokcccaaDoorCopy
namespace Go.Proofs.YtckmppcbokcccaaDoor
open Go Go.RowKit Go.Proofs Pl
set_option linter.unusedVariables false

theorem sum_lt {B m n p q r : Nat} (hB : 1 < B) (hm : m < B ^ p) (hn : n < B ^ q) (hp : p ≤ r) (hq : q ≤ r) : m + n < B ^ (r + 1) := by
  have h1 : B ^ p ≤ B ^ r := Nat.pow_le_pow_right (by omega) hp
  have h2 : B ^ q ≤ B ^ r := Nat.pow_le_pow_right (by omega) hq
  have h3 : B ^ r * 2 ≤ B ^ r * B := Nat.mul_le_mul_left _ hB
  rw [Nat.pow_succ]
  omega
theorem prod_lt {B m n p q : Nat} (hm : m < B ^ p) (hn : n < B ^ q) : m * n < B ^ (p + q) := by
  rw [Nat.pow_add]
  exact Nat.mul_lt_mul'' hm hn
theorem le_lt {B m n p : Nat} (h : m ≤ n) (hn : n < B ^ p) : m < B ^ p := Nat.lt_of_le_of_lt h hn

set_option maxRecDepth 100000 in
set_option maxHeartbeats 1000000 in
theorem natRings_main {L l m n : Nat} {a b c : Value} (w : World) (ht : Tab w) (hL : L ≤ 1048576) (ha : Nm w L a l) (hb : Nm w L b m) (hc : Nm w L c n) :
    Calls Tryd.prog 7 #[a, b, c] w fun e w' => e = .returned (.bool true) ∧ Below w.heap.size w w' := by
  have HT := Lib.hid ht
  have HI := Lib.hid (And.intro ha (And.intro hb hc))
  have zl := ha.lt
  have zm := hb.lt
  have zn := hc.lt
  have z1 : m + n < WB ^ (L + 1) := sum_lt WB_one zm zn (Nat.le_refl _) (Nat.le_refl _)
  have z2 : l * m < WB ^ (L + L) := prod_lt zl zm
  have z3 : l * n < WB ^ (L + L) := prod_lt zl zn
  have z4 : m * n < WB ^ (L + L) := prod_lt zm zn
  have Z := Lib.hid (And.intro z1 (And.intro z2 (And.intro z3 z4)))
  clear ht ha hb hc zl zm zn z1 z2 z3 z4
  go_enter Tryd.func7, Tryd.ntmps7
  go_wp2_with fail
  refine (speaks_any w HT.out).mono ?_; rintro e w1 ⟨rfl, hb⟩
  have I1 := Lib.hid (And.intro (HI.out.1.keep hb) (And.intro (HI.out.2.1.keep hb) (And.intro (HI.out.2.2.keep hb) hb)))
  clear hb HI HT
  go_wp2_with fail
  refine (add_nm I1.out.2.1 I1.out.2.2.1 (by omega) (by omega)).mono ?_; rintro e w2 ⟨v2, rfl, h2⟩
  have I2 := Lib.hid (And.intro (I1.out.1.keep h2.2) (And.intro (I1.out.2.1.keep h2.2) (And.intro (I1.out.2.2.1.keep h2.2) (And.intro (below_trans I1.out.2.2.2 h2.2) (h2.nm Z.out.1)))))
  clear h2 I1
  go_wp2_with fail
  refine (mul_nm I2.out.1 I2.out.2.2.2.2 (by omega) (by omega)).mono ?_; rintro e w3 ⟨v3, rfl, h3⟩
  have I3 := Lib.hid (And.intro (I2.out.1.keep h3.2) (And.intro (I2.out.2.1.keep h3.2) (And.intro (I2.out.2.2.1.keep h3.2) (And.intro (below_trans I2.out.2.2.2.1 h3.2) h3.nl))))
  clear h3 I2
  go_wp2_with fail
  refine (mul_nm I3.out.1 I3.out.2.1 (by omega) (by omega)).mono ?_; rintro e w4 ⟨v4, rfl, h4⟩
  have I4 := Lib.hid (And.intro (I3.out.1.keep h4.2) (And.intro (I3.out.2.1.keep h4.2) (And.intro (I3.out.2.2.1.keep h4.2) (And.intro (below_trans I3.out.2.2.2.1 h4.2) (And.intro (I3.out.2.2.2.2.keep h4.2) (h4.nm Z.out.2.1))))))
  clear h4 I3
  go_wp2_with fail
  refine (mul_nm I4.out.1 I4.out.2.2.1 (by omega) (by omega)).mono ?_; rintro e w5 ⟨v5, rfl, h5⟩
  have I5 := Lib.hid (And.intro (I4.out.1.keep h5.2) (And.intro (I4.out.2.1.keep h5.2) (And.intro (I4.out.2.2.1.keep h5.2) (And.intro (below_trans I4.out.2.2.2.1 h5.2) (And.intro (I4.out.2.2.2.2.1.keep h5.2) (And.intro (I4.out.2.2.2.2.2.keep h5.2) (h5.nm Z.out.2.2.1)))))))
  clear h5 I4
  go_wp2_with fail
  refine (add_nm I5.out.2.2.2.2.2.1 I5.out.2.2.2.2.2.2 (by omega) (by omega)).mono ?_; rintro e w6 ⟨v6, rfl, h6⟩
  have I6 := Lib.hid (And.intro (I5.out.1.keep h6.2) (And.intro (I5.out.2.1.keep h6.2) (And.intro (I5.out.2.2.1.keep h6.2) (And.intro (below_trans I5.out.2.2.2.1 h6.2) (And.intro (I5.out.2.2.2.2.1.keep h6.2) h6.nl)))))
  clear h6 I5
  go_wp2_with fail
  refine (same_yes I6.out.2.2.2.2.1 I6.out.2.2.2.2.2 (by rw [Nat.mul_add])).mono ?_; rintro e w7 ⟨rfl, hb⟩
  have I7 := Lib.hid (And.intro (I6.out.1.keep hb) (And.intro (I6.out.2.1.keep hb) (And.intro (I6.out.2.2.1.keep hb) (below_trans I6.out.2.2.2.1 hb))))
  clear hb I6
  go_wp2_with fail
  refine (mul_nm I7.out.1 I7.out.2.1 (by omega) (by omega)).mono ?_; rintro e w8 ⟨v8, rfl, h8⟩
  have I8 := Lib.hid (And.intro (I7.out.1.keep h8.2) (And.intro (I7.out.2.1.keep h8.2) (And.intro (I7.out.2.2.1.keep h8.2) (And.intro (below_trans I7.out.2.2.2 h8.2) h8.nl))))
  clear h8 I7
  go_wp2_with fail
  refine (mul_nm I8.out.2.1 I8.out.1 (by omega) (by omega)).mono ?_; rintro e w9 ⟨v9, rfl, h9⟩
  have I9 := Lib.hid (And.intro (I8.out.1.keep h9.2) (And.intro (I8.out.2.1.keep h9.2) (And.intro (I8.out.2.2.1.keep h9.2) (And.intro (below_trans I8.out.2.2.2.1 h9.2) (And.intro (I8.out.2.2.2.2.keep h9.2) h9.nl)))))
  clear h9 I8
  go_wp2_with fail
  refine (same_yes I9.out.2.2.2.2.1 I9.out.2.2.2.2.2 (by rw [Nat.mul_comm])).mono ?_; rintro e wa ⟨rfl, hb⟩
  have J1 := Lib.hid (And.intro (I9.out.1.keep hb) (And.intro (I9.out.2.1.keep hb) (And.intro (I9.out.2.2.1.keep hb) (below_trans I9.out.2.2.2.1 hb))))
  clear hb I9
  go_wp2_with fail
  refine (mul_nm J1.out.1 J1.out.2.1 (by omega) (by omega)).mono ?_; rintro e wb ⟨vb, rfl, h1⟩
  have J2 := Lib.hid (And.intro (J1.out.1.keep h1.2) (And.intro (J1.out.2.1.keep h1.2) (And.intro (J1.out.2.2.1.keep h1.2) (And.intro (below_trans J1.out.2.2.2 h1.2) (h1.nm Z.out.2.1)))))
  clear h1 J1
  go_wp2_with fail
  refine (mul_nm J2.out.2.2.2.2 J2.out.2.2.1 (by omega) (by omega)).mono ?_; rintro e wc ⟨vc, rfl, h1⟩
  have J3 := Lib.hid (And.intro (J2.out.1.keep h1.2) (And.intro (J2.out.2.1.keep h1.2) (And.intro (J2.out.2.2.1.keep h1.2) (And.intro (below_trans J2.out.2.2.2.1 h1.2) h1.nl))))
  clear h1 J2
  go_wp2_with fail
  refine (mul_nm J3.out.2.1 J3.out.2.2.1 (by omega) (by omega)).mono ?_; rintro e wd ⟨vd, rfl, h1⟩
  have J4 := Lib.hid (And.intro (J3.out.1.keep h1.2) (And.intro (below_trans J3.out.2.2.2.1 h1.2) (And.intro (J3.out.2.2.2.2.keep h1.2) (h1.nm Z.out.2.2.2))))
  clear h1 J3
  go_wp2_with fail
  refine (mul_nm J4.out.1 J4.out.2.2.2 (by omega) (by omega)).mono ?_; rintro e we ⟨ve, rfl, h1⟩
  have J5 := Lib.hid (And.intro (below_trans J4.out.2.1 h1.2) (And.intro (J4.out.2.2.1.keep h1.2) h1.nl))
  clear h1 J4
  go_wp2_with fail
  refine (same_yes J5.out.2.1 J5.out.2.2 (by rw [Nat.mul_assoc])).mono ?_; rintro e wf ⟨rfl, hb⟩
  have J6 := Lib.hid (below_trans J5.out.1 hb)
  clear hb J5
  go_wp2_with fail
  go_ret
  exact ⟨rfl, J6.out⟩
theorem natRings_walk (w : World) (ht : Tab w) {a b c : Value} {xs ys zs : List Nat} (ha : Nl w a xs) (la : xs.length ≤ 1048576) (hb : Nl w b ys) (lb : ys.length ≤ 1048576) (hc : Nl w c zs) (lc : zs.length ≤ 1048576) :
    Calls Tryd.prog 7 #[a, b, c] w fun e w' => e = .returned (.bool true) ∧ Below w.heap.size w w' := by
  obtain ⟨L, hL⟩ : ∃ L, L = 1048576 := ⟨_, rfl⟩
  rw [← hL] at la lb lc
  exact natRings_main w ht (by omega) (ha.nm.mono la) (hb.nm.mono lb) (hc.nm.mono lc)

set_option maxRecDepth 100000 in
set_option maxHeartbeats 1000000 in
theorem natBack_main {L m n : Nat} {a b : Value} {xs ys : List Nat} (w : World) (ht : Tab w) (hL : L ≤ 1048576) (ha : Nl w a xs) (la : xs.length ≤ L) (va : val WB xs = m) (hb : Nl w b ys) (lb : ys.length ≤ L) (vb : val WB ys = n) :
    Calls Tryd.prog 6 #[a, b] w fun e w' => e = .returned (.bool true) ∧ Below w.heap.size w w' := by
  have HT := Lib.hid ht
  have hma : Nm w L a m := ⟨xs, ha, la, va⟩
  have hmb : Nm w L b n := ⟨ys, hb, lb, vb⟩
  have zm := hma.lt
  have HI := Lib.hid (And.intro ha hb)
  have HM := Lib.hid (And.intro hma hmb)
  have HV := Lib.hid (And.intro va (And.intro vb zm))
  have HLn := Lib.hid (And.intro la lb)
  clear ht ha hb hma hmb va vb zm la lb
  go_enter Tryd.func6, Tryd.ntmps6
  go_wp2_with fail
  refine (speaks_any w HT.out).mono ?_; rintro e w1 ⟨rfl, hb⟩
  have I1 := Lib.hid (And.intro (HI.out.1.keep hb) (And.intro (HI.out.2.keep hb) (And.intro (HM.out.1.keep hb) (And.intro (HM.out.2.keep hb) hb))))
  clear hb HI HT HM
  go_wp2_with fail
  refine (copy_nl I1.out.1 (by have := HLn.out.1; omega)).mono ?_; rintro e w2 ⟨v2, rfl, ho2, hb2⟩
  have I2 := Lib.hid (And.intro (I1.out.2.1.keep hb2) (And.intro (I1.out.2.2.1.keep hb2) (And.intro (I1.out.2.2.2.1.keep hb2) (And.intro (below_trans I1.out.2.2.2.2 hb2) (show Nm w2 L v2 m from ⟨xs, ho2.nl, HLn.out.1, HV.out.1⟩)))))
  clear ho2 hb2 I1
  go_wp2_with fail
  refine (copy_nl I2.out.1 (by have := HLn.out.2; omega)).mono ?_; rintro e w3 ⟨v3, rfl, ho3, hb3⟩
  have I3 := Lib.hid (And.intro (I2.out.2.1.keep hb3) (And.intro (I2.out.2.2.1.keep hb3) (And.intro (below_trans I2.out.2.2.2.1 hb3) (And.intro (I2.out.2.2.2.2.keep hb3) (show Nm w3 L v3 n from ⟨ys, ho3.nl, HLn.out.2, HV.out.2.1⟩)))))
  clear ho3 hb3 I2
  go_wp2_with fail
  by_cases h0 : n = 0
  · refine (divMod_by0 I3.out.2.2.2.1 I3.out.2.2.2.2 h0).mono ?_; rintro e w' ⟨rfl, rfl⟩
    go_wp2_with fail
    refine (trim_nm I3.out.2.1 (by omega)).mono ?_; rintro e w4 ⟨v4, rfl, h4⟩
    have h5 := h4.1
    rw [h0, dg_zero] at h5
    obtain ⟨A4, c4, rfl, -, -⟩ := h5.slice
    have I4 := Lib.hid (below_trans I3.out.2.2.1 h4.2)
    clear h4 h5 I3
    go_wp2_with fail
    go_ret
    exact ⟨rfl, I4.out⟩
  · have hdiv : m / n * n + m % n = m := by rw [Nat.mul_comm]; exact Nat.div_add_mod m n
    have hmod : m % n < n := Nat.mod_lt m (Nat.pos_of_ne_zero h0)
    have zq : m / n < WB ^ L := le_lt (Nat.div_le_self _ _) HV.out.2.2
    have zr : m % n < WB ^ L := le_lt (Nat.mod_le _ _) HV.out.2.2
    have zp : m / n * n < WB ^ L := le_lt (by omega) HV.out.2.2
    have Z := Lib.hid (And.intro hdiv (And.intro hmod (And.intro zq (And.intro zr (And.intro zp h0)))))
    clear hdiv hmod zq zr zp h0
    refine (divMod_nm I3.out.2.2.2.1 I3.out.2.2.2.2 (by omega) Z.out.2.2.2.2.2).mono ?_; rintro e w4 ⟨q, r, rfl, hq, hr⟩
    have I4 := Lib.hid (And.intro (I3.out.1.keep hq.2) (And.intro (I3.out.2.1.keep hq.2) (And.intro (below_trans I3.out.2.2.1 hq.2) (And.intro (hq.nm Z.out.2.2.1) (And.intro (hr.nm Z.out.2.2.2.1) (And.intro hq.nl hr.nl))))))
    clear hq hr I3
    go_wp2_with fail
    refine (mul_nm I4.out.2.2.2.1 I4.out.2.1 (by omega) (by omega)).mono ?_; rintro e w5 ⟨v5, rfl, h5⟩
    have I5 := Lib.hid (And.intro (I4.out.1.keep h5.2) (And.intro (I4.out.2.1.keep h5.2) (And.intro (below_trans I4.out.2.2.1 h5.2) (And.intro (I4.out.2.2.2.1.keep h5.2) (And.intro (I4.out.2.2.2.2.1.keep h5.2) (And.intro (I4.out.2.2.2.2.2.1.keep h5.2) (And.intro (I4.out.2.2.2.2.2.2.keep h5.2) (h5.nm Z.out.2.2.2.2.1))))))))
    clear h5 I4
    go_wp2_with fail
    refine (add_nm I5.out.2.2.2.2.2.2.2 I5.out.2.2.2.2.1 (by omega) (by omega)).mono ?_; rintro e w6 ⟨v6, rfl, h6⟩
    have h7 := h6.nm (L := L) (by rw [Z.out.1]; exact HV.out.2.2)
    have I6 := Lib.hid (And.intro (I5.out.1.keep h6.2) (And.intro (I5.out.2.1.keep h6.2) (And.intro (below_trans I5.out.2.2.1 h6.2) (And.intro (I5.out.2.2.2.1.keep h6.2) (And.intro (I5.out.2.2.2.2.1.keep h6.2) (And.intro (I5.out.2.2.2.2.2.1.keep h6.2) (And.intro (I5.out.2.2.2.2.2.2.1.keep h6.2) h7)))))))
    clear h6 h7 I5
    go_wp2_with fail
    have hc1 := cmp_nm I6.out.2.2.2.2.2.2.2 I6.out.1
    rw [Z.out.1, show cmpN m m = 0 from by simp [cmpN]] at hc1
    refine hc1.mono ?_; rintro e w7 ⟨rfl, hb⟩
    have I7 := Lib.hid (And.intro (I6.out.2.1.keep hb) (And.intro (below_trans I6.out.2.2.1 hb) (And.intro (I6.out.2.2.2.1.keep hb) (And.intro (I6.out.2.2.2.2.1.keep hb) (And.intro (I6.out.2.2.2.2.2.1.keep hb) (I6.out.2.2.2.2.2.2.1.keep hb))))))
    clear hb hc1 I6
    go_wp2_with fail
    have hc2 := cmp_nm I7.out.2.2.2.1 I7.out.1
    rw [show cmpN (m % n) n = -1 from by simp [cmpN, Z.out.2.1]] at hc2
    refine hc2.mono ?_; rintro e w8 ⟨rfl, hb⟩
    have I8 := Lib.hid (And.intro (below_trans I7.out.2.1 hb) (And.intro (I7.out.2.2.1.keep hb) (And.intro (I7.out.2.2.2.1.keep hb) (And.intro (I7.out.2.2.2.2.1.keep hb) (I7.out.2.2.2.2.2.keep hb)))))
    clear hb hc2 I7
    go_wp2_with fail
    refine (trim_nm I8.out.2.2.1 (by omega)).mono ?_; rintro e w9 ⟨v9, rfl, h9⟩
    have I9 := Lib.hid (And.intro (below_trans I8.out.1 h9.2) (And.intro (I8.out.2.1.keep h9.2) (And.intro (I8.out.2.2.2.1.keep h9.2) (And.intro (I8.out.2.2.2.2.keep h9.2) h9.nl))))
    clear h9 I8
    go_wp2_with fail
    refine (same_yes I9.out.2.2.2.1 I9.out.2.2.2.2 rfl).mono ?_; rintro e wa ⟨rfl, hb⟩
    have J1 := Lib.hid (And.intro (below_trans I9.out.1 hb) (And.intro (I9.out.2.1.keep hb) (I9.out.2.2.1.keep hb)))
    clear hb I9
    go_wp2_with fail
    refine (trim_nm J1.out.2.1 (by omega)).mono ?_; rintro e wb ⟨vb, rfl, h1⟩
    have J2 := Lib.hid (And.intro (below_trans J1.out.1 h1.2) (And.intro (J1.out.2.2.keep h1.2) h1.nl))
    clear h1 J1
    go_wp2_with fail
    refine (same_yes J2.out.2.1 J2.out.2.2 rfl).mono ?_; rintro e wc ⟨rfl, hb⟩
    have J3 := Lib.hid (below_trans J2.out.1 hb)
    clear hb J2
    go_wp2_with fail
    go_ret
    exact ⟨rfl, J3.out⟩
theorem natBack_walk (w : World) (ht : Tab w) {a b : Value} {xs ys : List Nat} (ha : Nl w a xs) (la : xs.length ≤ 1048576) (hb : Nl w b ys) (lb : ys.length ≤ 1048576) :
    Calls Tryd.prog 6 #[a, b] w fun e w' => e = .returned (.bool true) ∧ Below w.heap.size w w' := by
  obtain ⟨L, hL⟩ : ∃ L, L = 1048576 := ⟨_, rfl⟩
  rw [← hL] at la lb
  exact natBack_main w ht (by omega) ha la rfl hb lb rfl
end Go.Proofs.YtckmppcbokcccaaDoor
