/-
  The laws NatSums, NatProducts, walked.
-/
import Derived.Test.YtckmppcbokcccaaDoorI11
namespace Go.Proofs.YtckmppcbokcccaaDoor
open Go Go.RowKit Go.Proofs Pl
set_option linter.unusedVariables false

/-- Words are written over: what lay below them, and what was made since, stands. -/
theorem spoil_low {w wp wk : World} {v : Value} {xs : List Nat} (hO : Ow wp w.heap.size v xs) (hb : Below w.heap.size w wp) (hk : Below wp.heap.size wp wk) :
    Calls Tryd.prog 23 #[v] wk fun e w' => e = .returned (.tuple #[]) ∧ Below w.heap.size w w' ∧ ∀ (B : Nat) (u : Value) (ys : List Nat), wp.heap.size ≤ B → Ow wk B u ys → Ow w' B u ys := by
  refine (spoil_any w.heap.size v xs wk (hO.keep hk)).mono ?_
  rintro e w' ⟨he, hg⟩
  have h2 := below_trans hb hk
  refine ⟨he, h2.grown hg h2.size (fun j hj => (hO.lt j hj).1), fun B u ys hB hu => ⟨hu.1, own_grown_below hu.2 hg (fun k hk => Nat.lt_of_lt_of_le (hO.lt k hk).2 hB)⟩⟩

set_option maxRecDepth 100000 in
set_option maxHeartbeats 1000000 in
theorem natSums_lt {a b : Value} {xs ys : List Nat} {m n : Nat} (w : World) (ht : Tab w) (ha : Nl w a xs) (hb : Nl w b ys) (la : xs.length ≤ 90) (lb : ys.length ≤ 90) (em : val WB xs = m) (en : val WB ys = n) (hlt : m < n) :
    Calls Tryd.prog 11 #[a, b] w fun e w' => e = .returned (.bool true) ∧ Below w.heap.size w w' := by
  have zm : m < WB ^ 90 := by rw [← em]; exact Nat.lt_of_lt_of_le (val_lt ha.all) (Nat.pow_le_pow_right WB_pos la)
  have zn : n < WB ^ 90 := by rw [← en]; exact Nat.lt_of_lt_of_le (val_lt hb.all) (Nat.pow_le_pow_right WB_pos lb)
  have ZM := Lib.hid zm
  have ZN := Lib.hid zn
  have EM := Lib.hid em
  have EN := Lib.hid en
  have LA := Lib.hid la
  have LB := Lib.hid lb
  have HT := Lib.hid ht
  have S0 := Lib.hid (And.intro (ha) (And.intro (hb) (Below.refl w.heap.size w)))
  have HLT := Lib.hid hlt
  clear ha hb ht zm zn em en la lb hlt
  go_enter Tryd.func11, Tryd.ntmps11
  go_wp2_with fail
  refine (speaks_any w HT.out).mono ?_; rintro e w1 ⟨rfl, hb⟩
  have S1 := Lib.hid (And.intro (S0.out.1.keep (hb)) (And.intro (S0.out.2.1.keep (hb)) (below_trans (S0.out.2.2) (hb))))
  clear hb S0
  go_wp2_with fail
  refine (great_no S1.out.1 S1.out.2.1 LA.out LB.out).mono ?_; rintro e w' ⟨rfl, rfl⟩
  go_wp2_with fail
  refine (copy_nl S1.out.1 (by have := LA.out; omega)).mono ?_; rintro e w2 ⟨vx, rfl, ho, hb⟩
  have S2 := Lib.hid (And.intro (S1.out.1.keep (hb)) (And.intro (S1.out.2.1.keep (hb)) (And.intro (ho.nl) (below_trans (S1.out.2.2) (hb)))))
  clear ho hb S1
  go_wp2_with fail
  refine (copy_nl S2.out.2.1 (by have := LB.out; omega)).mono ?_; rintro e w3 ⟨vy, rfl, ho, hb⟩
  have S3 := Lib.hid (And.intro (S2.out.1.keep (hb)) (And.intro (S2.out.2.1.keep (hb)) (And.intro (S2.out.2.2.1.keep (hb)) (And.intro (ho.nl) (below_trans (S2.out.2.2.2) (hb))))))
  clear ho hb S2
  go_wp2_with fail
  refine (I.of_dn S3.out.1 LA.out (by decide) EM.out).mono ?_; rintro e w4 ⟨vm, rfl, h, hb⟩
  have S4 := Lib.hid (And.intro (S3.out.1.keep (hb)) (And.intro (S3.out.2.1.keep (hb)) (And.intro (S3.out.2.2.1.keep (hb)) (And.intro (S3.out.2.2.2.1.keep (hb)) (And.intro (h) (below_trans (S3.out.2.2.2.2) (hb)))))))
  clear h hb S3
  go_wp2_with fail
  refine (I.of_dn S4.out.2.1 LB.out (by decide) EN.out).mono ?_; rintro e w5 ⟨vn, rfl, h, hb⟩
  have S5 := Lib.hid (And.intro (S4.out.1.keep (hb)) (And.intro (S4.out.2.1.keep (hb)) (And.intro (S4.out.2.2.1.keep (hb)) (And.intro (S4.out.2.2.2.1.keep (hb)) (And.intro (S4.out.2.2.2.2.1.keep (hb)) (And.intro (h) (below_trans (S4.out.2.2.2.2.2) (hb))))))))
  clear h hb S4
  go_wp2_with fail
  refine (add_nm (show Nm _ 90 _ m from ⟨_, S5.out.2.2.1, LA.out, EM.out⟩) (show Nm _ 90 _ n from ⟨_, S5.out.2.2.2.1, LB.out, EN.out⟩) (by decide) (by decide)).mono ?_; rintro e ws ⟨vs, rfl, hs⟩
  have HS := Lib.hid hs
  clear hs
  go_wp2_with fail
  refine (add_nm (show Nm _ 90 _ m from ⟨_, S5.out.2.2.1.keep HS.out.2, LA.out, EM.out⟩) (show Nm _ 90 _ n from ⟨_, S5.out.2.2.2.1.keep HS.out.2, LB.out, EN.out⟩) (by decide) (by decide)).mono ?_; rintro e wg ⟨vg, rfl, hg⟩
  have HG := Lib.hid hg
  clear hg
  go_wp2_with fail
  refine (spoil_low HS.out.1 HS.out.2 HG.out.2).mono ?_; rintro e w6 ⟨rfl, hb, hk⟩
  have S6 := Lib.hid (And.intro (S5.out.1.keep (hb)) (And.intro (S5.out.2.1.keep (hb)) (And.intro (S5.out.2.2.1.keep (hb)) (And.intro (S5.out.2.2.2.1.keep (hb)) (And.intro (S5.out.2.2.2.2.1.keep (hb)) (And.intro (S5.out.2.2.2.2.2.1.keep (hb)) (And.intro ((hk _ _ _ (Nat.le_refl _) HG.out.1).nl) (below_trans (S5.out.2.2.2.2.2.2) (hb)))))))))
  clear hb hk HS HG S5
  go_wp2_with fail
  have hs := sub_nm (show Nm _ 90 _ m from ⟨_, S6.out.2.2.1, LA.out, EM.out⟩) (show Nm _ 90 _ n from ⟨_, S6.out.2.2.2.1, LB.out, EN.out⟩) (by decide)
  rw [show subErr m n = 4 from by simp [subErr, HLT.out], show m - n = 0 from by have := HLT.out; omega] at hs
  refine hs.mono ?_; rintro e w7 ⟨vd, rfl, h⟩
  have h3 := h.1
  rw [dg_zero] at h3
  obtain ⟨A2, c2, rfl, -, -⟩ := h3.slice
  have S7 := Lib.hid (And.intro (S6.out.1.keep (h.2)) (And.intro (S6.out.2.1.keep (h.2)) (And.intro (S6.out.2.2.1.keep (h.2)) (And.intro (S6.out.2.2.2.1.keep (h.2)) (And.intro (S6.out.2.2.2.2.1.keep (h.2)) (And.intro (S6.out.2.2.2.2.2.1.keep (h.2)) (And.intro (S6.out.2.2.2.2.2.2.1.keep (h.2)) (below_trans (S6.out.2.2.2.2.2.2.2) (h.2)))))))))
  clear hs h h3 S6
  go_wp2_with fail
  refine (I.add_dn S7.out.2.2.2.2.1 S7.out.2.2.2.2.2.1 (by decide) (by decide)).mono ?_; rintro e w8 ⟨vt, rfl, h, hb⟩
  have S8 := Lib.hid (And.intro (S7.out.1.keep (hb)) (And.intro (S7.out.2.1.keep (hb)) (And.intro (S7.out.2.2.1.keep (hb)) (And.intro (S7.out.2.2.2.1.keep (hb)) (And.intro (S7.out.2.2.2.2.1.keep (hb)) (And.intro (S7.out.2.2.2.2.2.1.keep (hb)) (And.intro (S7.out.2.2.2.2.2.2.1.keep (hb)) (And.intro (h) (below_trans (S7.out.2.2.2.2.2.2.2) (hb))))))))))
  clear h hb S7
  go_wp2_with fail
  refine (I.to_dn (K := 91) S8.out.2.2.2.2.2.2.2.1 (by decide) (I.sum_lt WB_one ZM.out ZN.out (by decide) (by decide)) (by decide)).mono ?_; rintro e w9 ⟨vu, rfl, h, hb⟩
  have S9 := Lib.hid (And.intro (S8.out.1.keep (hb)) (And.intro (S8.out.2.1.keep (hb)) (And.intro (S8.out.2.2.1.keep (hb)) (And.intro (S8.out.2.2.2.1.keep (hb)) (And.intro (S8.out.2.2.2.2.1.keep (hb)) (And.intro (S8.out.2.2.2.2.2.1.keep (hb)) (And.intro (S8.out.2.2.2.2.2.2.1.keep (hb)) (And.intro (h) (below_trans (S8.out.2.2.2.2.2.2.2.2) (hb))))))))))
  clear h hb S8
  go_wp2_with fail
  refine (same_yes S9.out.2.2.2.2.2.2.1 S9.out.2.2.2.2.2.2.2.1 rfl).mono ?_; rintro e w10 ⟨rfl, hb⟩
  have S10 := Lib.hid (And.intro (S9.out.1.keep (hb)) (And.intro (S9.out.2.1.keep (hb)) (And.intro (S9.out.2.2.1.keep (hb)) (And.intro (S9.out.2.2.2.1.keep (hb)) (And.intro (S9.out.2.2.2.2.1.keep (hb)) (And.intro (S9.out.2.2.2.2.2.1.keep (hb)) (below_trans (S9.out.2.2.2.2.2.2.2.2) (hb))))))))
  clear hb S9
  have hc1 := cmp_nm (show Nm _ 90 _ m from ⟨_, S10.out.2.2.1, LA.out, EM.out⟩) (show Nm _ 90 _ n from ⟨_, S10.out.2.2.2.1, LB.out, EN.out⟩)
  have hc2 := fun W (h1 : I.Dn W 450 vm m) (h2 : I.Dn W 450 vn n) => I.cmp_dn h1 h2 (by decide) (by decide)
  rw [show cmpN m n = -1 from by simp [cmpN, HLT.out]] at hc1
  simp only [show cmpN m n = -1 from by simp [cmpN, HLT.out]] at hc2
  have HC1 := Lib.hid hc1
  have HC2 := Lib.hid hc2
  clear hc1 hc2
  go_wp2_with fail
  refine (HC1.out).mono ?_; rintro e w11 ⟨rfl, hb⟩
  have S11 := Lib.hid (And.intro (S10.out.1.keep (hb)) (And.intro (S10.out.2.1.keep (hb)) (And.intro (S10.out.2.2.1.keep (hb)) (And.intro (S10.out.2.2.2.1.keep (hb)) (And.intro (S10.out.2.2.2.2.1.keep (hb)) (And.intro (S10.out.2.2.2.2.2.1.keep (hb)) (below_trans (S10.out.2.2.2.2.2.2) (hb))))))))
  clear hb HC1 S10
  go_wp2_with fail
  refine (HC2.out _ S11.out.2.2.2.2.1 S11.out.2.2.2.2.2.1).mono ?_; rintro e w' ⟨rfl, rfl⟩
  go_wp2_with fail
  refine (same_yes S11.out.2.2.1 S11.out.1 rfl).mono ?_; rintro e w12 ⟨rfl, hb⟩
  have S12 := Lib.hid (And.intro (S11.out.1.keep (hb)) (And.intro (S11.out.2.1.keep (hb)) (And.intro (S11.out.2.2.1.keep (hb)) (And.intro (S11.out.2.2.2.1.keep (hb)) (And.intro (S11.out.2.2.2.2.1.keep (hb)) (And.intro (S11.out.2.2.2.2.2.1.keep (hb)) (below_trans (S11.out.2.2.2.2.2.2) (hb))))))))
  clear hb S11
  go_wp2_with fail
  refine (same_yes S12.out.2.2.2.1 S12.out.2.1 rfl).mono ?_; rintro e w13 ⟨rfl, hb⟩
  have S13 := Lib.hid (And.intro (S12.out.1.keep (hb)) (And.intro (S12.out.2.1.keep (hb)) (And.intro (S12.out.2.2.1.keep (hb)) (And.intro (S12.out.2.2.2.1.keep (hb)) (And.intro (S12.out.2.2.2.2.1.keep (hb)) (And.intro (S12.out.2.2.2.2.2.1.keep (hb)) (below_trans (S12.out.2.2.2.2.2.2) (hb))))))))
  clear hb S12
  go_wp2_with fail
  refine (HC2.out _ S13.out.2.2.2.2.1 S13.out.2.2.2.2.2.1).mono ?_; rintro e w' ⟨rfl, rfl⟩
  go_wp2_with fail
  go_ret
  exact ⟨rfl, S13.out.2.2.2.2.2.2⟩
set_option maxRecDepth 100000 in
set_option maxHeartbeats 1000000 in
theorem natSums_ge {a b : Value} {xs ys : List Nat} {m n : Nat} (w : World) (ht : Tab w) (ha : Nl w a xs) (hb : Nl w b ys) (la : xs.length ≤ 90) (lb : ys.length ≤ 90) (em : val WB xs = m) (en : val WB ys = n) (hlt : n ≤ m) :
    Calls Tryd.prog 11 #[a, b] w fun e w' => e = .returned (.bool true) ∧ Below w.heap.size w w' := by
  have zm : m < WB ^ 90 := by rw [← em]; exact Nat.lt_of_lt_of_le (val_lt ha.all) (Nat.pow_le_pow_right WB_pos la)
  have zn : n < WB ^ 90 := by rw [← en]; exact Nat.lt_of_lt_of_le (val_lt hb.all) (Nat.pow_le_pow_right WB_pos lb)
  have ZM := Lib.hid zm
  have ZN := Lib.hid zn
  have EM := Lib.hid em
  have EN := Lib.hid en
  have LA := Lib.hid la
  have LB := Lib.hid lb
  have HT := Lib.hid ht
  have S0 := Lib.hid (And.intro (ha) (And.intro (hb) (Below.refl w.heap.size w)))
  have HLT := Lib.hid hlt
  clear ha hb ht zm zn em en la lb hlt
  go_enter Tryd.func11, Tryd.ntmps11
  go_wp2_with fail
  refine (speaks_any w HT.out).mono ?_; rintro e w1 ⟨rfl, hb⟩
  have S1 := Lib.hid (And.intro (S0.out.1.keep (hb)) (And.intro (S0.out.2.1.keep (hb)) (below_trans (S0.out.2.2) (hb))))
  clear hb S0
  go_wp2_with fail
  refine (great_no S1.out.1 S1.out.2.1 LA.out LB.out).mono ?_; rintro e w' ⟨rfl, rfl⟩
  go_wp2_with fail
  refine (copy_nl S1.out.1 (by have := LA.out; omega)).mono ?_; rintro e w2 ⟨vx, rfl, ho, hb⟩
  have S2 := Lib.hid (And.intro (S1.out.1.keep (hb)) (And.intro (S1.out.2.1.keep (hb)) (And.intro (ho.nl) (below_trans (S1.out.2.2) (hb)))))
  clear ho hb S1
  go_wp2_with fail
  refine (copy_nl S2.out.2.1 (by have := LB.out; omega)).mono ?_; rintro e w3 ⟨vy, rfl, ho, hb⟩
  have S3 := Lib.hid (And.intro (S2.out.1.keep (hb)) (And.intro (S2.out.2.1.keep (hb)) (And.intro (S2.out.2.2.1.keep (hb)) (And.intro (ho.nl) (below_trans (S2.out.2.2.2) (hb))))))
  clear ho hb S2
  go_wp2_with fail
  refine (I.of_dn S3.out.1 LA.out (by decide) EM.out).mono ?_; rintro e w4 ⟨vm, rfl, h, hb⟩
  have S4 := Lib.hid (And.intro (S3.out.1.keep (hb)) (And.intro (S3.out.2.1.keep (hb)) (And.intro (S3.out.2.2.1.keep (hb)) (And.intro (S3.out.2.2.2.1.keep (hb)) (And.intro (h) (below_trans (S3.out.2.2.2.2) (hb)))))))
  clear h hb S3
  go_wp2_with fail
  refine (I.of_dn S4.out.2.1 LB.out (by decide) EN.out).mono ?_; rintro e w5 ⟨vn, rfl, h, hb⟩
  have S5 := Lib.hid (And.intro (S4.out.1.keep (hb)) (And.intro (S4.out.2.1.keep (hb)) (And.intro (S4.out.2.2.1.keep (hb)) (And.intro (S4.out.2.2.2.1.keep (hb)) (And.intro (S4.out.2.2.2.2.1.keep (hb)) (And.intro (h) (below_trans (S4.out.2.2.2.2.2) (hb))))))))
  clear h hb S4
  go_wp2_with fail
  refine (add_nm (show Nm _ 90 _ m from ⟨_, S5.out.2.2.1, LA.out, EM.out⟩) (show Nm _ 90 _ n from ⟨_, S5.out.2.2.2.1, LB.out, EN.out⟩) (by decide) (by decide)).mono ?_; rintro e ws ⟨vs, rfl, hs⟩
  have HS := Lib.hid hs
  clear hs
  go_wp2_with fail
  refine (add_nm (show Nm _ 90 _ m from ⟨_, S5.out.2.2.1.keep HS.out.2, LA.out, EM.out⟩) (show Nm _ 90 _ n from ⟨_, S5.out.2.2.2.1.keep HS.out.2, LB.out, EN.out⟩) (by decide) (by decide)).mono ?_; rintro e wg ⟨vg, rfl, hg⟩
  have HG := Lib.hid hg
  clear hg
  go_wp2_with fail
  refine (spoil_low HS.out.1 HS.out.2 HG.out.2).mono ?_; rintro e w6 ⟨rfl, hb, hk⟩
  have S6 := Lib.hid (And.intro (S5.out.1.keep (hb)) (And.intro (S5.out.2.1.keep (hb)) (And.intro (S5.out.2.2.1.keep (hb)) (And.intro (S5.out.2.2.2.1.keep (hb)) (And.intro (S5.out.2.2.2.2.1.keep (hb)) (And.intro (S5.out.2.2.2.2.2.1.keep (hb)) (And.intro ((hk _ _ _ (Nat.le_refl _) HG.out.1).nl) (below_trans (S5.out.2.2.2.2.2.2) (hb)))))))))
  clear hb hk HS HG S5
  go_wp2_with fail
  have hs := sub_nm (show Nm _ 90 _ m from ⟨_, S6.out.2.2.1, LA.out, EM.out⟩) (show Nm _ 90 _ n from ⟨_, S6.out.2.2.2.1, LB.out, EN.out⟩) (by decide)
  rw [show subErr m n = 0 from by have := HLT.out; simp [subErr]; omega] at hs
  refine hs.mono ?_; rintro e w7 ⟨vd, rfl, h⟩
  have S7 := Lib.hid (And.intro (S6.out.1.keep (h.2)) (And.intro (S6.out.2.1.keep (h.2)) (And.intro (S6.out.2.2.1.keep (h.2)) (And.intro (S6.out.2.2.2.1.keep (h.2)) (And.intro (S6.out.2.2.2.2.1.keep (h.2)) (And.intro (S6.out.2.2.2.2.2.1.keep (h.2)) (And.intro (S6.out.2.2.2.2.2.2.1.keep (h.2)) (And.intro (h.nl) (below_trans (S6.out.2.2.2.2.2.2.2) (h.2))))))))))
  clear hs h S6
  go_wp2_with fail
  refine (I.add_dn S7.out.2.2.2.2.1 S7.out.2.2.2.2.2.1 (by decide) (by decide)).mono ?_; rintro e w8 ⟨vt, rfl, h, hb⟩
  have S8 := Lib.hid (And.intro (S7.out.1.keep (hb)) (And.intro (S7.out.2.1.keep (hb)) (And.intro (S7.out.2.2.1.keep (hb)) (And.intro (S7.out.2.2.2.1.keep (hb)) (And.intro (S7.out.2.2.2.2.1.keep (hb)) (And.intro (S7.out.2.2.2.2.2.1.keep (hb)) (And.intro (S7.out.2.2.2.2.2.2.1.keep (hb)) (And.intro (S7.out.2.2.2.2.2.2.2.1.keep (hb)) (And.intro (h) (below_trans (S7.out.2.2.2.2.2.2.2.2) (hb)))))))))))
  clear h hb S7
  go_wp2_with fail
  refine (I.to_dn (K := 91) S8.out.2.2.2.2.2.2.2.2.1 (by decide) (I.sum_lt WB_one ZM.out ZN.out (by decide) (by decide)) (by decide)).mono ?_; rintro e w9 ⟨vu, rfl, h, hb⟩
  have S9 := Lib.hid (And.intro (S8.out.1.keep (hb)) (And.intro (S8.out.2.1.keep (hb)) (And.intro (S8.out.2.2.1.keep (hb)) (And.intro (S8.out.2.2.2.1.keep (hb)) (And.intro (S8.out.2.2.2.2.1.keep (hb)) (And.intro (S8.out.2.2.2.2.2.1.keep (hb)) (And.intro (S8.out.2.2.2.2.2.2.1.keep (hb)) (And.intro (S8.out.2.2.2.2.2.2.2.1.keep (hb)) (And.intro (h) (below_trans (S8.out.2.2.2.2.2.2.2.2.2) (hb)))))))))))
  clear h hb S8
  go_wp2_with fail
  refine (same_yes S9.out.2.2.2.2.2.2.1 S9.out.2.2.2.2.2.2.2.2.1 rfl).mono ?_; rintro e w10 ⟨rfl, hb⟩
  have S10 := Lib.hid (And.intro (S9.out.1.keep (hb)) (And.intro (S9.out.2.1.keep (hb)) (And.intro (S9.out.2.2.1.keep (hb)) (And.intro (S9.out.2.2.2.1.keep (hb)) (And.intro (S9.out.2.2.2.2.1.keep (hb)) (And.intro (S9.out.2.2.2.2.2.1.keep (hb)) (And.intro (S9.out.2.2.2.2.2.2.2.1.keep (hb)) (below_trans (S9.out.2.2.2.2.2.2.2.2.2) (hb)))))))))
  clear hb S9
  have hc1 := cmp_nm (show Nm _ 90 _ m from ⟨_, S10.out.2.2.1, LA.out, EM.out⟩) (show Nm _ 90 _ n from ⟨_, S10.out.2.2.2.1, LB.out, EN.out⟩)
  have hc2 := fun W (h1 : I.Dn W 450 vm m) (h2 : I.Dn W 450 vn n) => I.cmp_dn h1 h2 (by decide) (by decide)
  obtain ⟨sg, hsg⟩ : ∃ sg, sg = cmpN m n := ⟨_, rfl⟩
  rw [← hsg] at hc1
  simp only [← hsg] at hc2
  have hsg0 : ¬ sg < 0 := by have := HLT.out; rw [hsg, cmpN]; split <;> (try split) <;> omega
  have hse : (sg != sg) = false := by simp
  clear hsg
  have HC1 := Lib.hid hc1
  have HC2 := Lib.hid hc2
  clear hc1 hc2
  go_wp2_with fail
  refine (HC1.out).mono ?_; rintro e w11 ⟨rfl, hb⟩
  have S11 := Lib.hid (And.intro (S10.out.1.keep (hb)) (And.intro (S10.out.2.1.keep (hb)) (And.intro (S10.out.2.2.1.keep (hb)) (And.intro (S10.out.2.2.2.1.keep (hb)) (And.intro (S10.out.2.2.2.2.1.keep (hb)) (And.intro (S10.out.2.2.2.2.2.1.keep (hb)) (And.intro (S10.out.2.2.2.2.2.2.1.keep (hb)) (below_trans (S10.out.2.2.2.2.2.2.2) (hb)))))))))
  clear hb HC1 S10
  go_wp2_with fail
  refine (HC2.out _ S11.out.2.2.2.2.1 S11.out.2.2.2.2.2.1).mono ?_; rintro e w' ⟨rfl, rfl⟩
  go_wp2_with fail
  refine (same_yes S11.out.2.2.1 S11.out.1 rfl).mono ?_; rintro e w12 ⟨rfl, hb⟩
  have S12 := Lib.hid (And.intro (S11.out.1.keep (hb)) (And.intro (S11.out.2.1.keep (hb)) (And.intro (S11.out.2.2.1.keep (hb)) (And.intro (S11.out.2.2.2.1.keep (hb)) (And.intro (S11.out.2.2.2.2.1.keep (hb)) (And.intro (S11.out.2.2.2.2.2.1.keep (hb)) (And.intro (S11.out.2.2.2.2.2.2.1.keep (hb)) (below_trans (S11.out.2.2.2.2.2.2.2) (hb)))))))))
  clear hb S11
  go_wp2_with fail
  refine (same_yes S12.out.2.2.2.1 S12.out.2.1 rfl).mono ?_; rintro e w13 ⟨rfl, hb⟩
  have S13 := Lib.hid (And.intro (S12.out.1.keep (hb)) (And.intro (S12.out.2.1.keep (hb)) (And.intro (S12.out.2.2.1.keep (hb)) (And.intro (S12.out.2.2.2.1.keep (hb)) (And.intro (S12.out.2.2.2.2.1.keep (hb)) (And.intro (S12.out.2.2.2.2.2.1.keep (hb)) (And.intro (S12.out.2.2.2.2.2.2.1.keep (hb)) (below_trans (S12.out.2.2.2.2.2.2.2) (hb)))))))))
  clear hb S12
  go_wp2_with fail
  refine (HC2.out _ S13.out.2.2.2.2.1 S13.out.2.2.2.2.2.1).mono ?_; rintro e w' ⟨rfl, rfl⟩
  go_wp2_with fail
  refine (I.sub_dn S13.out.2.2.2.2.1 S13.out.2.2.2.2.2.1 (by decide) HLT.out).mono ?_; rintro e w14 ⟨ve, rfl, h, hb⟩
  have S14 := Lib.hid (And.intro (S13.out.1.keep (hb)) (And.intro (S13.out.2.1.keep (hb)) (And.intro (S13.out.2.2.1.keep (hb)) (And.intro (S13.out.2.2.2.1.keep (hb)) (And.intro (S13.out.2.2.2.2.1.keep (hb)) (And.intro (S13.out.2.2.2.2.2.1.keep (hb)) (And.intro (S13.out.2.2.2.2.2.2.1.keep (hb)) (And.intro (h) (below_trans (S13.out.2.2.2.2.2.2.2) (hb))))))))))
  clear h hb S13
  go_wp2_with fail
  refine (I.to_dn (K := 90) S14.out.2.2.2.2.2.2.2.1 (by decide) (Nat.lt_of_le_of_lt (Nat.sub_le _ _) ZM.out) (by decide)).mono ?_; rintro e w15 ⟨vf, rfl, h, hb⟩
  have S15 := Lib.hid (And.intro (S14.out.1.keep (hb)) (And.intro (S14.out.2.1.keep (hb)) (And.intro (S14.out.2.2.1.keep (hb)) (And.intro (S14.out.2.2.2.1.keep (hb)) (And.intro (S14.out.2.2.2.2.1.keep (hb)) (And.intro (S14.out.2.2.2.2.2.1.keep (hb)) (And.intro (S14.out.2.2.2.2.2.2.1.keep (hb)) (And.intro (S14.out.2.2.2.2.2.2.2.1.keep (hb)) (And.intro (h) (below_trans (S14.out.2.2.2.2.2.2.2.2) (hb)))))))))))
  clear h hb S14
  go_wp2_with fail
  refine (same_yes S15.out.2.2.2.2.2.2.1 S15.out.2.2.2.2.2.2.2.2.1 rfl).mono ?_; rintro e w16 ⟨rfl, hb⟩
  have S16 := Lib.hid (And.intro (S15.out.1.keep (hb)) (And.intro (S15.out.2.1.keep (hb)) (And.intro (S15.out.2.2.1.keep (hb)) (And.intro (S15.out.2.2.2.1.keep (hb)) (And.intro (S15.out.2.2.2.2.1.keep (hb)) (And.intro (S15.out.2.2.2.2.2.1.keep (hb)) (And.intro (S15.out.2.2.2.2.2.2.1.keep (hb)) (And.intro (S15.out.2.2.2.2.2.2.2.1.keep (hb)) (And.intro (S15.out.2.2.2.2.2.2.2.2.1.keep (hb)) (below_trans (S15.out.2.2.2.2.2.2.2.2.2) (hb)))))))))))
  clear hb S15
  go_wp2_with fail
  go_ret
  exact ⟨rfl, S16.out.2.2.2.2.2.2.2.2.2⟩
set_option maxRecDepth 100000 in
set_option maxHeartbeats 1000000 in
theorem natProducts_small {a b : Value} {xs ys : List Nat} {m n : Nat} (w : World) (ht : Tab w) (ha : Nl w a xs) (hb : Nl w b ys) (la : xs.length ≤ 90) (lb : ys.length ≤ 90) (em : val WB xs = m) (en : val WB ys = n) :
    Calls Tryd.prog 4 #[a, b] w fun e w' => e = .returned (.bool true) ∧ Below w.heap.size w w' := by
  have zm : m < WB ^ 90 := by rw [← em]; exact Nat.lt_of_lt_of_le (val_lt ha.all) (Nat.pow_le_pow_right WB_pos la)
  have zn : n < WB ^ 90 := by rw [← en]; exact Nat.lt_of_lt_of_le (val_lt hb.all) (Nat.pow_le_pow_right WB_pos lb)
  have ZM := Lib.hid zm
  have ZN := Lib.hid zn
  have EM := Lib.hid em
  have EN := Lib.hid en
  have LA := Lib.hid la
  have LB := Lib.hid lb
  have HT := Lib.hid ht
  have S0 := Lib.hid (And.intro (ha) (And.intro (hb) (Below.refl w.heap.size w)))
  clear ha hb ht zm zn em en la lb
  go_enter Tryd.func4, Tryd.ntmps4
  go_wp2_with fail
  refine (speaks_any w HT.out).mono ?_; rintro e w1 ⟨rfl, hb⟩
  have S1 := Lib.hid (And.intro (S0.out.1.keep (hb)) (And.intro (S0.out.2.1.keep (hb)) (below_trans (S0.out.2.2) (hb))))
  clear hb S0
  go_wp2_with fail
  refine (great_no S1.out.1 S1.out.2.1 LA.out LB.out).mono ?_; rintro e w' ⟨rfl, rfl⟩
  go_wp2_with fail
  refine (copy_nl S1.out.1 (by have := LA.out; omega)).mono ?_; rintro e w2 ⟨vx, rfl, ho, hb⟩
  have S2 := Lib.hid (And.intro (S1.out.1.keep (hb)) (And.intro (S1.out.2.1.keep (hb)) (And.intro (ho.nl) (below_trans (S1.out.2.2) (hb)))))
  clear ho hb S1
  go_wp2_with fail
  refine (copy_nl S2.out.2.1 (by have := LB.out; omega)).mono ?_; rintro e w3 ⟨vy, rfl, ho, hb⟩
  have S3 := Lib.hid (And.intro (S2.out.1.keep (hb)) (And.intro (S2.out.2.1.keep (hb)) (And.intro (S2.out.2.2.1.keep (hb)) (And.intro (ho.nl) (below_trans (S2.out.2.2.2) (hb))))))
  clear ho hb S2
  go_wp2_with fail
  refine (mul_nm (show Nm _ 90 _ m from ⟨_, S3.out.2.2.1, LA.out, EM.out⟩) (show Nm _ 90 _ n from ⟨_, S3.out.2.2.2.1, LB.out, EN.out⟩) (by decide) (by decide)).mono ?_; rintro e wp ⟨vp, rfl, hp⟩
  have HP := Lib.hid hp
  clear hp
  have T0 := Lib.hid (And.intro (S3.out.1.keep HP.out.2) (And.intro (S3.out.2.1.keep HP.out.2) (And.intro (HP.out.1.nl) (Below.refl wp.heap.size wp))))
  go_wp2_with fail
  refine (I.of_dn T0.out.1 LA.out (by decide) EM.out).mono ?_; rintro e w101 ⟨vm, rfl, h, hb⟩
  have S101 := Lib.hid (And.intro (T0.out.1.keep (hb)) (And.intro (T0.out.2.1.keep (hb)) (And.intro (T0.out.2.2.1.keep (hb)) (And.intro (h) (below_trans (T0.out.2.2.2) (hb))))))
  clear h hb T0
  go_wp2_with fail
  refine (I.of_dn S101.out.2.1 LB.out (by decide) EN.out).mono ?_; rintro e w102 ⟨vn, rfl, h, hb⟩
  have S102 := Lib.hid (And.intro (S101.out.1.keep (hb)) (And.intro (S101.out.2.1.keep (hb)) (And.intro (S101.out.2.2.1.keep (hb)) (And.intro (S101.out.2.2.2.1.keep (hb)) (And.intro (h) (below_trans (S101.out.2.2.2.2) (hb)))))))
  clear h hb S101
  go_wp2_with fail
  refine (I.mul_dn S102.out.2.2.2.1 S102.out.2.2.2.2.1 (by decide) (by decide)).mono ?_; rintro e w103 ⟨vt, rfl, h, hb⟩
  have S103 := Lib.hid (And.intro (S102.out.1.keep (hb)) (And.intro (S102.out.2.1.keep (hb)) (And.intro (S102.out.2.2.1.keep (hb)) (And.intro (S102.out.2.2.2.1.keep (hb)) (And.intro (S102.out.2.2.2.2.1.keep (hb)) (And.intro (h) (below_trans (S102.out.2.2.2.2.2) (hb))))))))
  clear h hb S102
  go_wp2_with fail
  refine (I.to_dn (K := 180) S103.out.2.2.2.2.2.1 (by decide) (by rw [show (180 : Nat) = 90 + 90 from rfl, Nat.pow_add]; exact Nat.mul_lt_mul'' ZM.out ZN.out) (by decide)).mono ?_; rintro e w104 ⟨vu, rfl, h, hb⟩
  have S104 := Lib.hid (And.intro (S103.out.1.keep (hb)) (And.intro (S103.out.2.1.keep (hb)) (And.intro (S103.out.2.2.1.keep (hb)) (And.intro (S103.out.2.2.2.1.keep (hb)) (And.intro (S103.out.2.2.2.2.1.keep (hb)) (And.intro (h) (below_trans (S103.out.2.2.2.2.2.2) (hb))))))))
  clear h hb S103
  go_wp2_with fail
  refine (same_yes S104.out.2.2.1 S104.out.2.2.2.2.2.1 rfl).mono ?_; rintro e w105 ⟨rfl, hb⟩
  have S105 := Lib.hid (And.intro (S104.out.1.keep (hb)) (And.intro (S104.out.2.1.keep (hb)) (And.intro (S104.out.2.2.2.1.keep (hb)) (And.intro (S104.out.2.2.2.2.1.keep (hb)) (below_trans (S104.out.2.2.2.2.2.2) (hb))))))
  clear hb S104
  go_wp2_with fail
  refine (spoil_low HP.out.1 HP.out.2 S105.out.2.2.2.2).mono ?_; rintro e w4 ⟨rfl, hb, -⟩
  have S4 := Lib.hid (And.intro (S3.out.1.keep (hb)) (And.intro (S3.out.2.1.keep (hb)) (And.intro (S3.out.2.2.1.keep (hb)) (And.intro (S3.out.2.2.2.1.keep (hb)) (below_trans (S3.out.2.2.2.2) (hb))))))
  clear hb S3
  go_wp2_with fail
  refine (same_yes S4.out.2.2.1 S4.out.1 rfl).mono ?_; rintro e w5 ⟨rfl, hb⟩
  have S5 := Lib.hid (And.intro (S4.out.1.keep (hb)) (And.intro (S4.out.2.1.keep (hb)) (And.intro (S4.out.2.2.1.keep (hb)) (And.intro (S4.out.2.2.2.1.keep (hb)) (below_trans (S4.out.2.2.2.2) (hb))))))
  clear hb S4
  go_wp2_with fail
  refine (same_yes S5.out.2.2.2.1 S5.out.2.1 rfl).mono ?_; rintro e w6 ⟨rfl, hb⟩
  have S6 := Lib.hid (And.intro (S5.out.1.keep (hb)) (And.intro (S5.out.2.1.keep (hb)) (And.intro (S5.out.2.2.1.keep (hb)) (And.intro (S5.out.2.2.2.1.keep (hb)) (below_trans (S5.out.2.2.2.2) (hb))))))
  clear hb S5
  go_wp2_with fail
  go_ret
  exact ⟨rfl, S6.out.2.2.2.2⟩
theorem natSums_early {a b : Value} {xs ys : List Nat} (w : World) (ht : Tab w) (ha : Nl w a xs) (hb : Nl w b ys) (h : ¬ (xs.length ≤ 90 ∧ ys.length ≤ 90)) :
    Calls Tryd.prog 11 #[a, b] w fun e w' => e = .returned (.bool true) ∧ Below w.heap.size w w' := by
  have HS := Lib.hid (speaks_any w ht)
  have HA := Lib.hid (And.intro ha hb)
  have HH := Lib.hid h
  clear ht ha hb h
  go_enter Tryd.func11, Tryd.ntmps11
  go_wp2_with fail
  refine HS.out.mono ?_; rintro e w1 ⟨rfl, hb⟩
  have HB := Lib.hid hb
  clear hb
  go_wp2_with fail
  refine (great_yes (HA.out.1.keep HB.out) (HA.out.2.keep HB.out) HH.out).mono ?_; rintro e w' ⟨rfl, rfl⟩
  go_wp2_with fail
  go_ret
  exact ⟨rfl, HB.out⟩
theorem natProducts_early {a b : Value} {xs ys : List Nat} (w : World) (ht : Tab w) (ha : Nl w a xs) (hb : Nl w b ys) (h : ¬ (xs.length ≤ 90 ∧ ys.length ≤ 90)) :
    Calls Tryd.prog 4 #[a, b] w fun e w' => e = .returned (.bool true) ∧ Below w.heap.size w w' := by
  have HS := Lib.hid (speaks_any w ht)
  have HA := Lib.hid (And.intro ha hb)
  have HH := Lib.hid h
  clear ht ha hb h
  go_enter Tryd.func4, Tryd.ntmps4
  go_wp2_with fail
  refine HS.out.mono ?_; rintro e w1 ⟨rfl, hb⟩
  have HB := Lib.hid hb
  clear hb
  go_wp2_with fail
  refine (great_yes (HA.out.1.keep HB.out) (HA.out.2.keep HB.out) HH.out).mono ?_; rintro e w' ⟨rfl, rfl⟩
  go_wp2_with fail
  go_ret
  exact ⟨rfl, HB.out⟩
theorem natSums_walk (w : World) (ht : Tab w) {a b : Value} {xs ys : List Nat} (ha : Nl w a xs) (hb : Nl w b ys) :
    Calls Tryd.prog 11 #[a, b] w fun e w' => e = .returned (.bool true) ∧ Below w.heap.size w w' := by
  by_cases h : xs.length ≤ 90 ∧ ys.length ≤ 90
  · by_cases hlt : val WB xs < val WB ys
    · exact natSums_lt w ht ha hb h.1 h.2 rfl rfl hlt
    · exact natSums_ge w ht ha hb h.1 h.2 rfl rfl (by omega)
  · exact natSums_early w ht ha hb h
theorem natProducts_walk (w : World) (ht : Tab w) {a b : Value} {xs ys : List Nat} (ha : Nl w a xs) (hb : Nl w b ys) :
    Calls Tryd.prog 4 #[a, b] w fun e w' => e = .returned (.bool true) ∧ Below w.heap.size w w' := by
  by_cases h : xs.length ≤ 90 ∧ ys.length ≤ 90
  · exact natProducts_small w ht ha hb h.1 h.2 rfl rfl
  · exact natProducts_early w ht ha hb h
end Go.Proofs.YtckmppcbokcccaaDoor
