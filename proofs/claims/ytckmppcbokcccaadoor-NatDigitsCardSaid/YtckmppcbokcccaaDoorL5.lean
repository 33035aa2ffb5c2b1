/-
  The law NatQuotients, walked.
-/
import Derived.Test.YtckmppcbokcccaaDoorL4
namespace Go.Proofs.YtckmppcbokcccaaDoor
open Go Go.RowKit Go.Proofs Pl
set_option linter.unusedVariables false

theorem I.Dn_zero (n : Nat) : dg I.TB n = [] ↔ n = 0 := dg_eq_nil I.TB_one n
/-- A word written anywhere leaves an owned row an owned row. -/
theorem ow_setCell {w : World} {B g k x : Nat} {u : Value} {ys : List Nat} (h : Ow w B u ys) (hx : x < WB) : ∃ zs, Ow (w.setCell ⟨g, k, none⟩ (.int .u64 (x : Int))) B u zs := by
  by_cases hb : u.ownBlock = some g
  · obtain ⟨A, c, rfl, h1, h2⟩ := h.slice
    cases A with
    | none => simp [Value.ownBlock] at hb
    | some ad =>
      obtain ⟨b, o, sp⟩ := ad
      rcases h.2.2 with ⟨hv, h0⟩ | ⟨g', cap, cur, hv, _⟩
      · cases hv
      · injection hv with hv hn hc
        injection hv with hv
        injection hv with hv1 hv2 hv3
        subst hv1; subst hv2; subst hv3
        have hgg : b = g := by simpa [Value.ownBlock] using hb
        subst hgg
        exact ⟨_, h.set_ rfl hx⟩
  · refine ⟨ys, h.1, h.2.kept (Lib.grownBy_setCell w g k _) (.inr ?_)⟩
    exact hb
set_option maxRecDepth 100000 in
theorem spoil_more (B : Nat) (v : Value) (xs : List Nat) (w : World) (hO : Ow w B v xs) :
    Calls Tryd.prog 23 #[v] w fun e w' => e = .returned (.tuple #[]) ∧ w.grownBy w' v.ownBlock ∧ ∀ (B0 : Nat) (u : Value) (ys : List Nat), Ow w B0 u ys → ∃ zs, Ow w' B0 u zs := by
  obtain ⟨A, c, rfl, h1, h2⟩ := hO.slice
  obtain ⟨n, hn⟩ : ∃ n, n = xs.length := ⟨_, rfl⟩
  have hO' := hO
  rw [← hn] at hO' h1 ⊢
  have hnm : n ≤ 9223372036854775807 := by unfold maxLen at h2; omega
  have HO := Lib.hid hO'
  have HN := Lib.hid hn
  clear hO hO' hn h1 h2
  go_enter Tryd.func23, Tryd.ntmps23
  go_wp2_with fail
  go_loopw [5] (fun i wr => ∃ k : Nat, i = .int .i64 (k : Int) ∧ k ≤ n ∧ Hid ((∃ ys : List Nat, ys.length = n ∧ Ow wr B (.slice A n c) ys) ∧ w.grownBy wr (Value.slice A n c).ownBlock ∧ ∀ (B0 : Nat) (u : Value) (ys : List Nat), Ow w B0 u ys → ∃ zs, Ow wr B0 u zs)) (fun i _ => n - (intOf i).toNat)
  case atStart => exact ⟨0, rfl, by omega, ⟨xs, HN.out.symm, HO.out⟩, World.grownBy.refl _ _, fun B0 u ys h => ⟨ys, h⟩⟩
  case round =>
    obtain ⟨k, rfl, hk, hS⟩ := hrel
    by_cases hlt : k < n
    · obtain ⟨⟨ys, hy, hOy⟩, hg, hm⟩ := hS.out
      obtain ⟨g, rfl, -, -, hgs, -, -, hcs, hfr⟩ := hOy.at_ (j := k) (by omega)
      have hmc := hcs k _ (atD_some (by omega))
      have hf := hfr k
      have h4 := hOy.set_ hy.symm (j := k) (x := 238) (by rw [WB_eq]; decide)
      have h5 : (Value.slice (some ⟨g, 0, none⟩) n c).ownBlock = some g := rfl
      rw [h5] at hg
      have h6 := grown_set hg k (.int .u64 238)
      have h7 : ∀ (B0 : Nat) (u : Value) (ys : List Nat), Ow w B0 u ys → ∃ zs, Ow (wr.setCell ⟨g, k, none⟩ (.int .u64 238)) B0 u zs := fun B0 u ys hu => by
        obtain ⟨zs, hz⟩ := hm B0 u ys hu
        exact ow_setCell (x := 238) hz (by rw [WB_eq]; decide)
      have K := Lib.hid (And.intro h4 (And.intro h6 (And.intro hy (And.intro h5 h7))))
      clear hOy hg hcs hfr h4 h6 hy h5 hS hgs hm h7
      go_wp2_with fail
      go_roundw
      case rel => exact ⟨k + 1, by go_num, by omega, ⟨_, by rw [List.length_set]; exact K.out.2.2.1, K.out.1⟩, by rw [K.out.2.2.2.1]; exact K.out.2.1, K.out.2.2.2.2⟩
      case measure => simp [intOf]; omega
    · go_wp2_with fail
      go_end0
      exact ⟨rfl, hS.out.2⟩
theorem spoil_raw {w wk : World} {v : Value} {xs : List Nat} (hO : Ow wk w.heap.size v xs) (hb : Below w.heap.size w wk) :
    Calls Tryd.prog 23 #[v] wk fun e w' => e = .returned (.tuple #[]) ∧ Below w.heap.size w w' ∧ ∀ (u : Value) (ys : List Nat), Ow wk w.heap.size u ys → ∃ zs, Ow w' w.heap.size u zs := by
  refine (spoil_more w.heap.size v xs wk hO).mono ?_
  rintro e w' ⟨he, hg, hm⟩
  exact ⟨he, hb.grown hg hb.size (fun j hj => (hO.lt j hj).1), hm w.heap.size⟩

set_option maxRecDepth 100000 in
set_option maxHeartbeats 2000000 in
theorem natQuotients_zero {a b : Value} {xs ys : List Nat} {m n : Nat} (A B : Option Addr) (ca cb lxa lya : Nat) (ea : a = .slice A lxa ca) (eb : b = .slice B lya cb) (i1 : (lxa : Int) ≤ 12) (i2 : (lya : Int) ≤ 12) (w : World) (ht : Tab w) (ha : Nl w a xs) (hb : Nl w b ys) (la : xs.length ≤ 12) (lb : ys.length ≤ 12) (em : val WB xs = m) (en : val WB ys = n) (hlt : n = 0) :
    Calls Tryd.prog 5 #[a, b] w fun e w' => e = .returned (.bool true) ∧ Below w.heap.size w w' := by
  have zm : m < WB ^ 12 := by rw [← em]; exact Nat.lt_of_lt_of_le (val_lt ha.all) (Nat.pow_le_pow_right WB_pos la)
  have zn : n < WB ^ 12 := by rw [← en]; exact Nat.lt_of_lt_of_le (val_lt hb.all) (Nat.pow_le_pow_right WB_pos lb)
  have zg : Nat.gcd m n < WB ^ 12 := by
    rcases Nat.eq_zero_or_pos m with h0 | h0
    · rw [h0, Nat.gcd_zero_left]; exact zn
    · exact Nat.lt_of_le_of_lt (Nat.gcd_le_left n h0) zm
  have ZM := Lib.hid zm
  have ZN := Lib.hid zn
  have ZG := Lib.hid zg
  have EM := Lib.hid em
  have EN := Lib.hid en
  have LA := Lib.hid la
  have LB := Lib.hid lb
  have HT := Lib.hid ht
  have HLT := Lib.hid hlt
  subst ea
  subst eb
  have S0 := Lib.hid (And.intro (ha) (And.intro (hb) (Below.refl w.heap.size w)))
  clear ha hb ht zm zn zg em en la lb hlt
  go_enter Tryd.func5, Tryd.ntmps5
  go_wp2_with fail
  refine (speaks_any w HT.out).mono ?_; rintro e w1 ⟨rfl, hb⟩
  have S1 := Lib.hid (And.intro (S0.out.1.keep (hb)) (And.intro (S0.out.2.1.keep (hb)) (below_trans (S0.out.2.2) (hb))))
  clear hb S0
  go_wp2_with fail
  refine (copy_nl S1.out.1 (by have := LA.out; omega)).mono ?_; rintro e w2 ⟨vx, rfl, ho, hb⟩
  have S2 := Lib.hid (And.intro (S1.out.1.keep (hb)) (And.intro (S1.out.2.1.keep (hb)) (And.intro (ho.nl) (below_trans (S1.out.2.2) (hb)))))
  clear ho hb S1
  go_wp2_with fail
  refine (copy_nl S2.out.2.1 (by have := LB.out; omega)).mono ?_; rintro e w3 ⟨vy, rfl, ho, hb⟩
  have S3 := Lib.hid (And.intro (S2.out.1.keep (hb)) (And.intro (S2.out.2.1.keep (hb)) (And.intro (S2.out.2.2.1.keep (hb)) (And.intro (ho.nl) (below_trans (S2.out.2.2.2) (hb))))))
  clear ho hb S2
  go_wp2_with fail
  refine (divMod_by0 (show Nm _ 12 _ m from ⟨_, S3.out.2.2.1, LA.out, EM.out⟩) (show Nm _ 12 _ n from ⟨_, S3.out.2.2.2.1, LB.out, EN.out⟩) HLT.out).mono ?_; rintro e w' ⟨rfl, rfl⟩
  go_wp2_with fail
  refine (gcd_nm (show Nm _ 12 _ m from ⟨_, S3.out.2.2.1, LA.out, EM.out⟩) (show Nm _ 12 _ n from ⟨_, S3.out.2.2.2.1, LB.out, EN.out⟩) (by decide) (by decide)).mono ?_; rintro e w4 ⟨vg, rfl, h⟩
  have S4 := Lib.hid (And.intro (S3.out.1.keep (h.2)) (And.intro (S3.out.2.1.keep (h.2)) (And.intro (S3.out.2.2.1.keep (h.2)) (And.intro (S3.out.2.2.2.1.keep (h.2)) (And.intro (h.nl) (below_trans (S3.out.2.2.2.2) (h.2)))))))
  clear h S3
  go_wp2_with fail
  refine (I.of_dn S4.out.2.1 LB.out (by decide) EN.out).mono ?_; rintro e w5 ⟨vn, rfl, h, hb⟩
  have S5 := Lib.hid (And.intro (S4.out.1.keep (hb)) (And.intro (S4.out.2.1.keep (hb)) (And.intro (S4.out.2.2.1.keep (hb)) (And.intro (S4.out.2.2.2.1.keep (hb)) (And.intro (S4.out.2.2.2.2.1.keep (hb)) (And.intro (h) (below_trans (S4.out.2.2.2.2.2) (hb))))))))
  clear h hb S4
  go_wp2_with fail
  refine (I.of_dn S5.out.1 LA.out (by decide) EM.out).mono ?_; rintro e w6 ⟨vm, rfl, h, hb⟩
  have S6 := Lib.hid (And.intro (S5.out.1.keep (hb)) (And.intro (S5.out.2.1.keep (hb)) (And.intro (S5.out.2.2.1.keep (hb)) (And.intro (S5.out.2.2.2.1.keep (hb)) (And.intro (S5.out.2.2.2.2.1.keep (hb)) (And.intro (S5.out.2.2.2.2.2.1.keep (hb)) (And.intro (h) (below_trans (S5.out.2.2.2.2.2.2) (hb)))))))))
  clear h hb S5
  obtain ⟨An, cn, en1, -⟩ := S6.out.2.2.2.2.2.1.1
  rw [HLT.out, dg_zero] at en1
  subst en1
  go_wp2_with fail
  refine (I.gcd_dn S6.out.2.2.2.2.2.2.1 S6.out.2.2.2.2.2.1 (by decide)).mono ?_; rintro e w7 ⟨vt, rfl, h, hb⟩
  have S7 := Lib.hid (And.intro (S6.out.1.keep (hb)) (And.intro (S6.out.2.1.keep (hb)) (And.intro (S6.out.2.2.1.keep (hb)) (And.intro (S6.out.2.2.2.1.keep (hb)) (And.intro (S6.out.2.2.2.2.1.keep (hb)) (And.intro (S6.out.2.2.2.2.2.1.keep (hb)) (And.intro (S6.out.2.2.2.2.2.2.1.keep (hb)) (And.intro (h) (below_trans (S6.out.2.2.2.2.2.2.2) (hb))))))))))
  clear h hb S6
  go_wp2_with fail
  refine (I.to_dn (K := 12) S7.out.2.2.2.2.2.2.2.1 (by decide) ZG.out (by decide)).mono ?_; rintro e w8 ⟨vu, rfl, h, hb⟩
  have S8 := Lib.hid (And.intro (S7.out.1.keep (hb)) (And.intro (S7.out.2.1.keep (hb)) (And.intro (S7.out.2.2.1.keep (hb)) (And.intro (S7.out.2.2.2.1.keep (hb)) (And.intro (S7.out.2.2.2.2.1.keep (hb)) (And.intro (S7.out.2.2.2.2.2.1.keep (hb)) (And.intro (S7.out.2.2.2.2.2.2.1.keep (hb)) (And.intro (S7.out.2.2.2.2.2.2.2.1.keep (hb)) (And.intro (h) (below_trans (S7.out.2.2.2.2.2.2.2.2) (hb)))))))))))
  clear h hb S7
  go_wp2_with fail
  refine (same_yes S8.out.2.2.2.2.1 S8.out.2.2.2.2.2.2.2.2.1 rfl).mono ?_; rintro e w9 ⟨rfl, hb⟩
  have S9 := Lib.hid (And.intro (S8.out.1.keep (hb)) (And.intro (S8.out.2.1.keep (hb)) (And.intro (S8.out.2.2.1.keep (hb)) (And.intro (S8.out.2.2.2.1.keep (hb)) (And.intro (S8.out.2.2.2.2.1.keep (hb)) (And.intro (S8.out.2.2.2.2.2.1.keep (hb)) (And.intro (S8.out.2.2.2.2.2.2.1.keep (hb)) (And.intro (S8.out.2.2.2.2.2.2.2.1.keep (hb)) (And.intro (S8.out.2.2.2.2.2.2.2.2.1.keep (hb)) (below_trans (S8.out.2.2.2.2.2.2.2.2.2) (hb)))))))))))
  clear hb S8
  go_wp2_with fail
  go_ret
  exact ⟨rfl, S9.out.2.2.2.2.2.2.2.2.2⟩
set_option maxRecDepth 100000 in
set_option maxHeartbeats 2000000 in
theorem natQuotients_some {a b : Value} {xs ys : List Nat} {m n : Nat} (A B : Option Addr) (ca cb lxa lya : Nat) (ea : a = .slice A lxa ca) (eb : b = .slice B lya cb) (i1 : (lxa : Int) ≤ 12) (i2 : (lya : Int) ≤ 12) (w : World) (ht : Tab w) (ha : Nl w a xs) (hb : Nl w b ys) (la : xs.length ≤ 12) (lb : ys.length ≤ 12) (em : val WB xs = m) (en : val WB ys = n) (hlt : n ≠ 0) :
    Calls Tryd.prog 5 #[a, b] w fun e w' => e = .returned (.bool true) ∧ Below w.heap.size w w' := by
  have zm : m < WB ^ 12 := by rw [← em]; exact Nat.lt_of_lt_of_le (val_lt ha.all) (Nat.pow_le_pow_right WB_pos la)
  have zn : n < WB ^ 12 := by rw [← en]; exact Nat.lt_of_lt_of_le (val_lt hb.all) (Nat.pow_le_pow_right WB_pos lb)
  have zg : Nat.gcd m n < WB ^ 12 := by
    rcases Nat.eq_zero_or_pos m with h0 | h0
    · rw [h0, Nat.gcd_zero_left]; exact zn
    · exact Nat.lt_of_le_of_lt (Nat.gcd_le_left n h0) zm
  have ZM := Lib.hid zm
  have ZN := Lib.hid zn
  have ZG := Lib.hid zg
  have EM := Lib.hid em
  have EN := Lib.hid en
  have LA := Lib.hid la
  have LB := Lib.hid lb
  have HT := Lib.hid ht
  have HLT := Lib.hid hlt
  subst ea
  subst eb
  have S0 := Lib.hid (And.intro (ha) (And.intro (hb) (Below.refl w.heap.size w)))
  clear ha hb ht zm zn zg em en la lb hlt
  go_enter Tryd.func5, Tryd.ntmps5
  go_wp2_with fail
  refine (speaks_any w HT.out).mono ?_; rintro e w1 ⟨rfl, hb⟩
  have S1 := Lib.hid (And.intro (S0.out.1.keep (hb)) (And.intro (S0.out.2.1.keep (hb)) (below_trans (S0.out.2.2) (hb))))
  clear hb S0
  go_wp2_with fail
  refine (copy_nl S1.out.1 (by have := LA.out; omega)).mono ?_; rintro e w2 ⟨vx, rfl, ho, hb⟩
  have S2 := Lib.hid (And.intro (S1.out.1.keep (hb)) (And.intro (S1.out.2.1.keep (hb)) (And.intro (ho.nl) (below_trans (S1.out.2.2) (hb)))))
  clear ho hb S1
  go_wp2_with fail
  refine (copy_nl S2.out.2.1 (by have := LB.out; omega)).mono ?_; rintro e w3 ⟨vy, rfl, ho, hb⟩
  have S3 := Lib.hid (And.intro (S2.out.1.keep (hb)) (And.intro (S2.out.2.1.keep (hb)) (And.intro (S2.out.2.2.1.keep (hb)) (And.intro (ho.nl) (below_trans (S2.out.2.2.2) (hb))))))
  clear ho hb S2
  go_wp2_with fail
  refine (divMod_nm (show Nm _ 12 _ m from ⟨_, S3.out.2.2.1, LA.out, EM.out⟩) (show Nm _ 12 _ n from ⟨_, S3.out.2.2.2.1, LB.out, EN.out⟩) (by decide) HLT.out).mono ?_; rintro e wq ⟨vq, vr, rfl, hq, hr⟩
  have HQ := Lib.hid hq
  have HR := Lib.hid hr
  clear hq hr
  go_wp2_with fail
  refine (gcd_nm (show Nm _ 12 _ m from ⟨_, S3.out.2.2.1.keep HQ.out.2, LA.out, EM.out⟩) (show Nm _ 12 _ n from ⟨_, S3.out.2.2.2.1.keep HQ.out.2, LB.out, EN.out⟩) (by decide) (by decide)).mono ?_; rintro e wg ⟨vg, rfl, hg⟩
  have HG := Lib.hid hg
  clear hg
  have T0 := Lib.hid (And.intro ((S3.out.1.keep HQ.out.2).keep HG.out.2) (And.intro ((S3.out.2.1.keep HQ.out.2).keep HG.out.2) (And.intro (HQ.out.1.nl.keep HG.out.2) (And.intro (HR.out.1.nl.keep HG.out.2) (And.intro (HG.out.1.nl) (Below.refl wg.heap.size wg))))))
  go_wp2_with fail
  refine (I.of_dn T0.out.2.1 LB.out (by decide) EN.out).mono ?_; rintro e w101 ⟨vn, rfl, h, hb⟩
  have S101 := Lib.hid (And.intro (T0.out.1.keep (hb)) (And.intro (T0.out.2.1.keep (hb)) (And.intro (T0.out.2.2.1.keep (hb)) (And.intro (T0.out.2.2.2.1.keep (hb)) (And.intro (T0.out.2.2.2.2.1.keep (hb)) (And.intro (h) (below_trans (T0.out.2.2.2.2.2) (hb))))))))
  clear h hb T0
  go_wp2_with fail
  refine (I.of_dn S101.out.1 LA.out (by decide) EM.out).mono ?_; rintro e w102 ⟨vm, rfl, h, hb⟩
  have S102 := Lib.hid (And.intro (S101.out.1.keep (hb)) (And.intro (S101.out.2.1.keep (hb)) (And.intro (S101.out.2.2.1.keep (hb)) (And.intro (S101.out.2.2.2.1.keep (hb)) (And.intro (S101.out.2.2.2.2.1.keep (hb)) (And.intro (S101.out.2.2.2.2.2.1.keep (hb)) (And.intro (h) (below_trans (S101.out.2.2.2.2.2.2) (hb)))))))))
  clear h hb S101
  go_wp2_with fail
  refine (I.gcd_dn S102.out.2.2.2.2.2.2.1 S102.out.2.2.2.2.2.1 (by decide)).mono ?_; rintro e w103 ⟨vt, rfl, h, hb⟩
  have S103 := Lib.hid (And.intro (S102.out.1.keep (hb)) (And.intro (S102.out.2.1.keep (hb)) (And.intro (S102.out.2.2.1.keep (hb)) (And.intro (S102.out.2.2.2.1.keep (hb)) (And.intro (S102.out.2.2.2.2.1.keep (hb)) (And.intro (S102.out.2.2.2.2.2.1.keep (hb)) (And.intro (h) (below_trans (S102.out.2.2.2.2.2.2.2) (hb)))))))))
  clear h hb S102
  go_wp2_with fail
  refine (I.to_dn (K := 12) S103.out.2.2.2.2.2.2.1 (by decide) ZG.out (by decide)).mono ?_; rintro e w104 ⟨vu, rfl, h, hb⟩
  have S104 := Lib.hid (And.intro (S103.out.1.keep (hb)) (And.intro (S103.out.2.1.keep (hb)) (And.intro (S103.out.2.2.1.keep (hb)) (And.intro (S103.out.2.2.2.1.keep (hb)) (And.intro (S103.out.2.2.2.2.1.keep (hb)) (And.intro (S103.out.2.2.2.2.2.1.keep (hb)) (And.intro (h) (below_trans (S103.out.2.2.2.2.2.2.2) (hb)))))))))
  clear h hb S103
  obtain ⟨An, cn, en1, -⟩ := S104.out.2.2.2.2.2.1.1
  obtain ⟨ln, hln⟩ : ∃ ln, ln = (dg I.TB n).length := ⟨_, rfl⟩
  have hn0 : ln ≠ 0 := by rw [hln]; exact fun h => HLT.out ((I.Dn_zero _).1 (List.eq_nil_of_length_eq_zero h))
  rw [← hln] at en1
  have hnb : ((ln : Int) == 0) = false := by simp; omega
  subst en1
  clear hln
  go_wp2_with fail
  refine (same_yes S104.out.2.2.2.2.1 S104.out.2.2.2.2.2.2.1 rfl).mono ?_; rintro e w105 ⟨rfl, hb⟩
  have S105 := Lib.hid (And.intro (S104.out.1.keep (hb)) (And.intro (S104.out.2.1.keep (hb)) (And.intro (S104.out.2.2.1.keep (hb)) (And.intro (S104.out.2.2.2.1.keep (hb)) (And.intro (S104.out.2.2.2.2.2.1.keep (hb)) (below_trans (S104.out.2.2.2.2.2.2.2) (hb)))))))
  clear hb S104
  go_wp2_with fail
  refine (I.of_dn S105.out.1 LA.out (by decide) EM.out).mono ?_; rintro e w106 ⟨vm2, rfl, h, hb⟩
  have S106 := Lib.hid (And.intro (S105.out.1.keep (hb)) (And.intro (S105.out.2.1.keep (hb)) (And.intro (S105.out.2.2.1.keep (hb)) (And.intro (S105.out.2.2.2.1.keep (hb)) (And.intro (S105.out.2.2.2.2.1.keep (hb)) (And.intro (h) (below_trans (S105.out.2.2.2.2.2) (hb))))))))
  clear h hb S105
  go_wp2_with fail
  refine (I.divMod_dn S106.out.2.2.2.2.2.1 S106.out.2.2.2.2.1 HLT.out (by decide) (by decide)).mono ?_; rintro e w107 ⟨vp, vs, rfl, h, h2, hb⟩
  have S107 := Lib.hid (And.intro (S106.out.1.keep (hb)) (And.intro (S106.out.2.1.keep (hb)) (And.intro (S106.out.2.2.1.keep (hb)) (And.intro (S106.out.2.2.2.1.keep (hb)) (And.intro (h) (And.intro (h2) (below_trans (S106.out.2.2.2.2.2.2) (hb))))))))
  clear h h2 hb S106
  go_wp2_with fail
  refine (I.to_dn (K := 12) S107.out.2.2.2.2.1 (by decide) (Nat.lt_of_le_of_lt (Nat.div_le_self _ _) ZM.out) (by decide)).mono ?_; rintro e w108 ⟨vv, rfl, h, hb⟩
  have S108 := Lib.hid (And.intro (S107.out.1.keep (hb)) (And.intro (S107.out.2.1.keep (hb)) (And.intro (S107.out.2.2.1.keep (hb)) (And.intro (S107.out.2.2.2.1.keep (hb)) (And.intro (S107.out.2.2.2.2.2.1.keep (hb)) (And.intro (h) (below_trans (S107.out.2.2.2.2.2.2) (hb))))))))
  clear h hb S107
  go_wp2_with fail
  refine (same_yes S108.out.2.2.1 S108.out.2.2.2.2.2.1 rfl).mono ?_; rintro e w109 ⟨rfl, hb⟩
  have S109 := Lib.hid (And.intro (S108.out.1.keep (hb)) (And.intro (S108.out.2.1.keep (hb)) (And.intro (S108.out.2.2.2.1.keep (hb)) (And.intro (S108.out.2.2.2.2.1.keep (hb)) (below_trans (S108.out.2.2.2.2.2.2) (hb))))))
  clear hb S108
  go_wp2_with fail
  refine (I.to_dn (K := 12) S109.out.2.2.2.1 (by decide) (Nat.lt_of_le_of_lt (Nat.mod_le _ _) ZM.out) (by decide)).mono ?_; rintro e w110 ⟨vz, rfl, h, hb⟩
  have S110 := Lib.hid (And.intro (S109.out.1.keep (hb)) (And.intro (S109.out.2.1.keep (hb)) (And.intro (S109.out.2.2.1.keep (hb)) (And.intro (h) (below_trans (S109.out.2.2.2.2) (hb))))))
  clear h hb S109
  go_wp2_with fail
  refine (same_yes S110.out.2.2.1 S110.out.2.2.2.1 rfl).mono ?_; rintro e w111 ⟨rfl, hb⟩
  have S111 := Lib.hid (And.intro (S110.out.1.keep (hb)) (And.intro (S110.out.2.1.keep (hb)) (below_trans (S110.out.2.2.2.2) (hb))))
  clear hb S110
  go_wp2_with fail
  have hk3 := below_trans (below_trans HQ.out.2 HG.out.2) S111.out.2.2
  have hq3 := (HQ.out.1.keep HG.out.2).keep S111.out.2.2
  have hr3 := (HR.out.1.keep HG.out.2).keep S111.out.2.2
  have hg3 := (HG.out.1.mono HQ.out.2.size).keep S111.out.2.2
  have Q0 := Lib.hid (And.intro hk3 (And.intro hq3 (And.intro hr3 hg3)))
  clear hk3 hq3 hr3 hg3 HQ HR HG S111
  refine (spoil_raw Q0.out.2.1 Q0.out.1).mono ?_; rintro e ww1 ⟨rfl, q1, q2⟩
  obtain ⟨z1, hz1⟩ := q2 _ _ Q0.out.2.2.1
  obtain ⟨z2, hz2⟩ := q2 _ _ Q0.out.2.2.2
  have Q1 := Lib.hid (And.intro q1 (And.intro hz1 hz2))
  clear q1 q2 hz1 hz2 Q0
  go_wp2_with fail
  refine (spoil_raw Q1.out.2.1 Q1.out.1).mono ?_; rintro e ww2 ⟨rfl, q1, q2⟩
  obtain ⟨z3, hz3⟩ := q2 _ _ Q1.out.2.2
  have Q2 := Lib.hid (And.intro q1 hz3)
  clear q1 q2 hz3 Q1
  go_wp2_with fail
  refine (spoil_raw Q2.out.2 Q2.out.1).mono ?_; rintro e ww3 ⟨rfl, q1, -⟩
  have S200 := Lib.hid (And.intro (S3.out.1.keep (q1)) (And.intro (S3.out.2.1.keep (q1)) (And.intro (S3.out.2.2.1.keep (q1)) (And.intro (S3.out.2.2.2.1.keep (q1)) (below_trans (S3.out.2.2.2.2) (q1))))))
  clear q1 S3
  go_wp2_with fail
  refine (same_yes S200.out.2.2.1 S200.out.1 rfl).mono ?_; rintro e w201 ⟨rfl, hb⟩
  have S201 := Lib.hid (And.intro (S200.out.1.keep (hb)) (And.intro (S200.out.2.1.keep (hb)) (And.intro (S200.out.2.2.1.keep (hb)) (And.intro (S200.out.2.2.2.1.keep (hb)) (below_trans (S200.out.2.2.2.2) (hb))))))
  clear hb S200
  go_wp2_with fail
  refine (same_yes S201.out.2.2.2.1 S201.out.2.1 rfl).mono ?_; rintro e w202 ⟨rfl, hb⟩
  have S202 := Lib.hid (And.intro (S201.out.1.keep (hb)) (And.intro (S201.out.2.1.keep (hb)) (And.intro (S201.out.2.2.1.keep (hb)) (And.intro (S201.out.2.2.2.1.keep (hb)) (below_trans (S201.out.2.2.2.2) (hb))))))
  clear hb S201
  go_wp2_with fail
  go_ret
  exact ⟨rfl, S202.out.2.2.2.2⟩
theorem natQuotients_early {x y : Nat} (w : World) (ht : Tab w) (A B : Option Addr) (ca cb : Nat) (h : ¬ (x ≤ 12 ∧ y ≤ 12)) :
    Calls Tryd.prog 5 #[.slice A x ca, .slice B y cb] w fun e w' => e = .returned (.bool true) ∧ Below w.heap.size w w' := by
  have HS := Lib.hid (speaks_any w ht)
  clear ht
  by_cases h1 : x ≤ 12
  · have i1 : (x : Int) ≤ 12 := by omega
    have i2 : (12 : Int) < (y : Int) := by omega
    clear h h1
    go_enter Tryd.func5, Tryd.ntmps5
    go_wp2_with fail
    refine HS.out.mono ?_; rintro e w1 ⟨rfl, hb⟩
    have HB := Lib.hid hb
    clear hb
    go_wp2_with fail
    go_ret
    exact ⟨rfl, HB.out⟩
  · have i1 : (12 : Int) < (x : Int) := by omega
    clear h h1
    go_enter Tryd.func5, Tryd.ntmps5
    go_wp2_with fail
    refine HS.out.mono ?_; rintro e w1 ⟨rfl, hb⟩
    have HB := Lib.hid hb
    clear hb
    go_wp2_with fail
    go_ret
    exact ⟨rfl, HB.out⟩
theorem natQuotients_walk (w : World) (ht : Tab w) {a b : Value} {xs ys : List Nat} (ha : Nl w a xs) (hb : Nl w b ys) :
    Calls Tryd.prog 5 #[a, b] w fun e w' => e = .returned (.bool true) ∧ Below w.heap.size w w' := by
  have ha' := ha
  have hb' := hb
  obtain ⟨A, ca, ea, -⟩ := ha'
  obtain ⟨B, cb, eb, -⟩ := hb'
  by_cases h : xs.length ≤ 12 ∧ ys.length ≤ 12
  · by_cases h0 : val WB ys = 0
    · exact natQuotients_zero A B ca cb _ _ ea eb (by omega) (by omega) w ht ha hb h.1 h.2 rfl rfl h0
    · exact natQuotients_some A B ca cb _ _ ea eb (by omega) (by omega) w ht ha hb h.1 h.2 rfl rfl h0
  · subst ea
    subst eb
    exact natQuotients_early w ht A B ca cb h
end Go.Proofs.YtckmppcbokcccaaDoor
