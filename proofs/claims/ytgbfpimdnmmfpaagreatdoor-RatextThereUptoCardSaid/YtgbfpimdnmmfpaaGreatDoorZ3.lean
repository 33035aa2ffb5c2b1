/-
  zint: Cmp, Of, To.
-/
import Derived.Test.YtgbfpimdnmmfpaaGreatDoorZ2
import Derived.IntWalk
namespace Go.Proofs.YtgbfpimdnmmfpaaGreatDoor
open Go Go.RowKit Go.Proofs Pl
set_option linter.unusedVariables false

theorem sign_is (x : Int) : signZ x = -1 ∧ x < 0 ∨ signZ x = 0 ∧ x = 0 ∨ signZ x = 1 ∧ 0 < x := by
  unfold signZ; split
  · exact .inr (.inl ⟨rfl, ‹_›⟩)
  · split
    · exact .inl ⟨rfl, ‹_›⟩
    · exact .inr (.inr ⟨rfl, by omega⟩)
theorem cmpZ_abs_neg {x y : Int} (hx : x < 0) (hy : y < 0) : cmpN y.natAbs x.natAbs = cmpZ x y := by unfold cmpN cmpZ; split <;> (try split) <;> (try split) <;> (try split) <;> omega
theorem cmpZ_abs {x y : Int} (hx : 0 ≤ x) (hy : 0 ≤ y) : cmpN x.natAbs y.natAbs = cmpZ x y := by unfold cmpN cmpZ; split <;> (try split) <;> (try split) <;> (try split) <;> omega
set_option maxRecDepth 100000 in
theorem cmp_z {w : World} {L1 L2 : Nat} {a b : Value} {x y : Int} (ha : Zn w L1 a x) (hb : Zn w L2 b y) (h1 : L1 ≤ 274877906944) (h2 : L2 ≤ 274877906944) :
    Calls Tryz.prog 30 #[a, b] w fun e w' => e = .returned (.int .i64 (cmpZ x y)) ∧ Below w.heap.size w w' := by
  have hsx := fun w1 (hb1 : Below w.heap.size w w1) => sign_z (ha.keep hb1) h1
  have hsy := fun w1 (hb1 : Below w.heap.size w w1) => sign_z (hb.keep hb1) h2
  obtain ⟨p, s, m, rfl, hs, ex⟩ := ha
  obtain ⟨q, t, n, rfl, ht, ey⟩ := hb
  have em : x.natAbs = m := by rw [ex, sg_abs]
  have en : y.natAbs = n := by rw [ey, sg_abs]
  have hc := fun w1 (hb1 : Below w.heap.size w w1) => cmp_nm (hs.keep hb1) (ht.keep hb1)
  have hd := fun w1 (hb1 : Below w.heap.size w w1) => cmp_nm (ht.keep hb1) (hs.keep hb1)
  simp only [← em, ← en] at hc hd
  have key : ∀ i j : Int, signZ x = i → signZ y = j → (i < j ∧ cmpZ x y = -1 ∨ j < i ∧ cmpZ x y = 1 ∨ i = j ∧ j < 0 ∧ cmpN y.natAbs x.natAbs = cmpZ x y ∨ i = j ∧ ¬ j < 0 ∧ cmpN x.natAbs y.natAbs = cmpZ x y) := by
    intro i j hi hj
    rcases sign_is x with ⟨e1, h1⟩ | ⟨e1, h1⟩ | ⟨e1, h1⟩ <;> rcases sign_is y with ⟨e2, h2⟩ | ⟨e2, h2⟩ | ⟨e2, h2⟩ <;> rw [e1] at hi <;> rw [e2] at hj <;> subst hi <;> subst hj
    · exact .inr (.inr (.inl ⟨rfl, by decide, cmpZ_abs_neg h1 h2⟩))
    · exact .inl ⟨by decide, by unfold cmpZ; rw [if_pos (by omega)]⟩
    · exact .inl ⟨by decide, by unfold cmpZ; rw [if_pos (by omega)]⟩
    · exact .inr (.inl ⟨by decide, by unfold cmpZ; rw [if_neg (by omega), if_neg (by omega)]⟩)
    · exact .inr (.inr (.inr ⟨rfl, by decide, cmpZ_abs (by omega) (by omega)⟩))
    · exact .inl ⟨by decide, by unfold cmpZ; rw [if_pos (by omega)]⟩
    · exact .inr (.inl ⟨by decide, by unfold cmpZ; rw [if_neg (by omega), if_neg (by omega)]⟩)
    · exact .inr (.inl ⟨by decide, by unfold cmpZ; rw [if_neg (by omega), if_neg (by omega)]⟩)
    · exact .inr (.inr (.inr ⟨rfl, by decide, cmpZ_abs (by omega) (by omega)⟩))
  obtain ⟨i, hi⟩ : ∃ i, signZ x = i := ⟨_, rfl⟩
  obtain ⟨j, hj⟩ : ∃ j, signZ y = j := ⟨_, rfl⟩
  have key := key i j hi hj
  simp only [hi] at hsx
  simp only [hj] at hsy
  obtain ⟨z, hz⟩ : ∃ z, cmpZ x y = z := ⟨_, rfl⟩
  obtain ⟨c1, e1⟩ : ∃ z, cmpN x.natAbs y.natAbs = z := ⟨_, rfl⟩
  obtain ⟨c2, e2⟩ : ∃ z, cmpN y.natAbs x.natAbs = z := ⟨_, rfl⟩
  rw [hz, e1, e2] at key
  simp only [e1] at hc
  simp only [e2] at hd
  rw [hz]
  have H := Lib.hid (And.intro hsx (And.intro hsy (And.intro hc hd)))
  clear hsx hsy hc hd hs ht ex ey em en hi hj hz e1 e2 h1 h2
  have N0 := new2 24 24 w (.bool p) s (.bool q) t
  go_enter Tryz.func30, Tryz.ntmps30
  go_upto_region 1 with (fail)
  generalize (w.alloc _).alloc _ = W0 at N0 ⊢
  have HN := Lib.hid N0
  have KEY := Lib.hid key
  have HS0 := N0.ld2
  clear N0 key
  go_region_held3 (fun W => W.cell? ⟨w.heap.size, 0, none⟩ = some (.bool p) ∧ W.cell? ⟨w.heap.size, 1, none⟩ = some s ∧ W.cell? ⟨w.heap.size + 1, 0, none⟩ = some (.bool q) ∧ W.cell? ⟨w.heap.size + 1, 1, none⟩ = some t) (first | exact HS0 | exact HS1 | exact HS2)
    (first
      | (go_at_call 29; refine (H.out.2.1 _ H1.out.2.2).mono ?_; rintro e w2 ⟨rfl, hb2⟩; have N2 := H1.out.keep hb2; have HS2 := N2.ld2; have H2 := Lib.hid N2; clear N2 hb2)
      | (go_at_call 29; refine (H.out.1 _ (by exact below_trans HN.out.2.2 (below_dr _ 1))).mono ?_; rintro e w1 ⟨rfl, hb1⟩; have N1 := (HN.out.drew 1).keep hb1; have HS1 := N1.ld2; have H1 := Lib.hid N1; clear N1 hb1))
  obtain ⟨c0, c1, c2, c3⟩ := HS2
  clear HS0 HS1
  rcases KEY.out with ⟨k1, k2⟩ | ⟨k1, k2⟩ | ⟨k1, k2, k3⟩ | ⟨k1, k2, k3⟩
  · have hne : i ≠ j := by omega
    have HK := Lib.hid k2
    clear k2 KEY
    go_wp2_with fail
    go_ret
    exact ⟨by rw [HK.out]; rfl, H2.out.2.2⟩
  · have hne : i ≠ j := by omega
    have hnl : ¬ i < j := by omega
    have HK := Lib.hid k2
    clear k2 KEY
    go_wp2_with fail
    go_ret
    exact ⟨by rw [HK.out]; rfl, H2.out.2.2⟩
  · subst k1
    have hse : (i != i) = false := by simp
    have HK := Lib.hid k3
    clear k3 KEY
    go_wp2_with fail
    refine (H.out.2.2.2 _ H2.out.2.2).mono ?_; rintro e w3 ⟨rfl, hb3⟩
    have HD := Lib.hid (below_trans H2.out.2.2 hb3)
    clear hb3
    go_wp2_with fail
    go_ret
    exact ⟨by rw [← HK.out]; rfl, HD.out⟩
  · subst k1
    have hse : (i != i) = false := by simp
    have HK := Lib.hid k3
    clear k3 KEY
    go_wp2_with fail
    refine (H.out.2.2.1 _ H2.out.2.2).mono ?_; rintro e w3 ⟨rfl, hb3⟩
    have HD := Lib.hid (below_trans H2.out.2.2 hb3)
    clear hb3
    go_wp2_with fail
    go_ret
    exact ⟨by rw [← HK.out]; rfl, HD.out⟩
end Go.Proofs.YtgbfpimdnmmfpaaGreatDoor
