/-
  zint: To.
-/
import Derived.Test.YtgbfpimdnmmfpaaGreatDoorZ5
namespace Go.Proofs.YtgbfpimdnmmfpaaGreatDoor
open Go Go.RowKit Go.Proofs Pl
set_option linter.unusedVariables false

/-- What Trim leaves of a number of one word. -/
theorem trim_one {w w' : World} {v : Value} {n : Nat} (h : Rs w w' v n) (h0 : n ≠ 0) (hn : n < WB) : ∃ b o c, v = .slice (some ⟨b, o, none⟩) 1 c ∧ w'.cell? ⟨b, o, none⟩ = some (.int .u64 (n : Int)) := by
  obtain ⟨A, c, rfl, h1, h2, h3, h4⟩ := h.nl
  rw [dg_one (by omega) hn] at h1 ⊢
  obtain ⟨b, o, rfl, hc⟩ := h1.at_ (j := 0) (by simp)
  exact ⟨b, o, c, rfl, by simpa using hc 0 n rfl⟩
theorem trim_two {w w' : World} {v : Value} {n : Nat} (h : Rs w w' v n) (hn : WB ≤ n) : ∃ A l c, v = .slice A l c ∧ 1 < (l : Int) := by
  obtain ⟨A, c, rfl, h1, h2, h3, h4⟩ := h.nl
  refine ⟨A, _, c, rfl, ?_⟩
  have : ¬ (dg WB n).length ≤ 1 := fun hl => by have := le_of_dg_length WB_one hl; rw [Nat.pow_one] at this; omega
  omega
set_option maxRecDepth 100000 in
/-- zint.To at a number that is no int64. -/
theorem to_no {w : World} {L : Nat} {a : Value} {z : Int} (ha : Zn w L a z) (hL : L ≤ 274877906944) (hz : ¬ Small64 z) :
    Calls Tryz.prog 39 #[a] w fun e w' => e = .returned (.tuple #[.int .i64 0, .int .i64 1]) ∧ Below w.heap.size w w' := by
  unfold Small64 at hz
  obtain ⟨p, s, n, rfl, hs, rfl⟩ := ha
  have hm := fun W (hb : Below w.heap.size w W) => trim_nm (hs.keep hb) hL
  have HM := Lib.hid hm
  clear hm hs
  have h0 : n ≠ 0 := by intro h; subst h; rw [sg_zero] at hz; omega
  go_enter Tryz.func39, Tryz.ntmps39
  go_wp2_with fail
  refine (HM.out _ (by go_grown)).mono ?_; rintro e w1 ⟨v1, rfl, h1⟩
  obtain ⟨c0, c1, -, -⟩ := ((Bx.new 24 w (.bool p) s).keep h1.2).facts
  have HB := Lib.hid (below_trans (below_al w _) h1.2)
  by_cases hn : WB ≤ n
  · obtain ⟨A, l, c, rfl, hl⟩ := trim_two h1 hn
    clear h1 HM hz h0 hn
    go_wp2_with fail
    go_ret2
    exact ⟨rfl, HB.out⟩
  · obtain ⟨b, o, c, rfl, hc⟩ := trim_one h1 h0 (by omega)
    obtain ⟨x, hx⟩ : ∃ x, (n : Int) = x := ⟨_, rfl⟩
    rw [hx] at hc
    by_cases hg : 9223372036854775808 < x
    · clear h1 HM hz h0 hn hx
      go_wp2_with fail
      go_ret2
      exact ⟨rfl, HB.out⟩
    · cases p
      · have hx2 : x = 9223372036854775808 := by simp [sg] at hz; omega
        clear h1 HM hz h0 hn hx
        subst hx2
        go_wp2_with fail
        go_ret2
        exact ⟨rfl, HB.out⟩
      · exfalso; simp [sg] at hz; omega
set_option maxRecDepth 100000 in
/-- zint.To at an int64. -/
theorem to_ok {w : World} {L : Nat} {a : Value} {z : Int} (ha : Zn w L a z) (hL : L ≤ 274877906944) (hz : Small64 z) :
    Calls Tryz.prog 39 #[a] w fun e w' => e = .returned (.tuple #[.int .i64 z, .int .i64 0]) ∧ Below w.heap.size w w' := by
  unfold Small64 at hz
  obtain ⟨p, s, n, rfl, hs, rfl⟩ := ha
  have hm := fun W (hb : Below w.heap.size w W) => trim_nm (hs.keep hb) hL
  have HM := Lib.hid hm
  clear hm hs
  have hn : n ≤ 9223372036854775808 := by have := congrArg Int.natAbs (rfl : sg p n = sg p n); cases p <;> simp [sg] at hz <;> omega
  go_enter Tryz.func39, Tryz.ntmps39
  go_wp2_with fail
  refine (HM.out _ (by go_grown)).mono ?_; rintro e w1 ⟨v1, rfl, h1⟩
  obtain ⟨c0, c1, -, -⟩ := ((Bx.new 24 w (.bool p) s).keep h1.2).facts
  have HB := Lib.hid (below_trans (below_al w _) h1.2)
  by_cases h0 : n = 0
  · subst h0
    obtain ⟨A, c, rfl, -, -⟩ := h1.1.slice
    rw [dg_zero] at h1 ⊢
    have HZ := Lib.hid (sg_zero p)
    clear h1 HM hz hn
    go_wp2_with fail
    go_ret2
    exact ⟨by rw [HZ.out]; rfl, HB.out⟩
  · obtain ⟨b, o, c, rfl, hc⟩ := trim_one h1 h0 (by rw [WB_eq]; omega)
    obtain ⟨x, hx⟩ : ∃ x, (n : Int) = x := ⟨_, rfl⟩
    rw [hx] at hc
    have hg : ¬ 9223372036854775808 < x := by omega
    cases p
    · have hne : x ≠ 9223372036854775808 := by simp [sg] at hz; omega
      have hw : IntKind.i64.wrap x = x := IntWalk.i64_in _ (by omega)
      have HX := Lib.hid (show sg false n = x from hx)
      clear h1 HM hz h0 hn hx
      go_wp2_with fail
      go_ret2
      exact ⟨by rw [HX.out]; rfl, HB.out⟩
    · by_cases hm : x = 9223372036854775808
      · have HX := Lib.hid (show sg true n = -9223372036854775808 from by simp only [sg, if_true]; omega)
        clear h1 HM hz h0 hn hx
        subst hm
        go_wp2_with fail
        go_ret2
        exact ⟨by rw [HX.out]; rfl, HB.out⟩
      · obtain ⟨x1, e1⟩ : ∃ x1, x1 = x - 1 := ⟨_, rfl⟩
        obtain ⟨x2, e2⟩ : ∃ x2, x2 = -x1 := ⟨_, rfl⟩
        obtain ⟨x3, e3⟩ : ∃ x3, x3 = x2 - 1 := ⟨_, rfl⟩
        have w1' : IntKind.u64.wrap (x - 1) = x1 := by rw [e1]; exact IntWalk.u64_in _ (by omega)
        have w2' : IntKind.i64.wrap x1 = x1 := IntWalk.i64_in _ (by omega)
        have w3' : IntKind.i64.wrap (-x1) = x2 := by rw [e2]; exact IntWalk.i64_in _ (by omega)
        have w4' : IntKind.i64.wrap (x2 - 1) = x3 := by rw [e3]; exact IntWalk.i64_in _ (by omega)
        have HX := Lib.hid (show sg true n = x3 from by simp only [sg, if_true]; omega)
        clear h1 HM hz h0 hn hx e1 e2 e3
        go_wp2_with fail
        go_ret2
        exact ⟨by rw [HX.out]; rfl, HB.out⟩
end Go.Proofs.YtgbfpimdnmmfpaaGreatDoor
