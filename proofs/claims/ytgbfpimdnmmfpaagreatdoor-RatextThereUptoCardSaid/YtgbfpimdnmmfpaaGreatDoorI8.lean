/-
  The document's numbers: Gcd, value; a number that is told by words.
-/
import Derived.Test.YtgbfpimdnmmfpaaGreatDoorI7
import Derived.Deep.RegionHeld3
import Derived.Deep.LoopGhost
namespace Go.Proofs.YtgbfpimdnmmfpaaGreatDoor
namespace I
open Go Go.RowKit Go.Proofs Pl
set_option linter.unusedVariables false

set_option maxRecDepth 100000 in
theorem value_any (A : Option Addr) (c : Nat) (xs : List Nat) (w : World) (hx : Rd w A xs) (hl : xs.length ≤ 1099511627776) (hv : val TB xs < 4611686018427387904) :
    Calls Tryz.prog 90 #[.slice A xs.length c] w fun e w' => e = .returned (.int .i64 (val TB xs : Int)) ∧ w = w' := by
  obtain ⟨n, hn⟩ : ∃ n, n = xs.length := ⟨_, rfl⟩
  rw [← hn] at hl ⊢
  have HX := Lib.hid hx
  have HN := Lib.hid (And.intro hn hv)
  clear hx hn hv
  go_enter Tryz.func90, Tryz.ntmps90
  go_wp2_with fail
  go_loop [3, 4] (fun s i => ∃ k t : Nat, i = .int .i64 ((k : Int) - 1) ∧ k ≤ n ∧ s = .int .i64 (t : Int) ∧ Hid (t = val TB (xs.drop k))) (fun _ i => (intOf i + 1).toNat)
  case atStart => exact ⟨n, 0, rfl, Nat.le_refl _, rfl, by show _ = _; rw [HN.out.1, List.drop_length]; rfl⟩
  case round =>
    obtain ⟨k, t, rfl, hk, rfl, ht⟩ := hrel
    cases k with
    | zero =>
      have hfin : Hid (t = val TB xs) := by show _ = _; rw [ht.out, List.drop_zero]
      go_wp2_with fail
      go_ret
      exact ⟨by rw [← hfin.out]; rfl, rfl⟩
    | succ m =>
      have hkm : (((m + 1 : Nat) : Int) - 1) = (m : Int) := by omega
      rw [hkm]
      clear hkm
      obtain ⟨b, o, rfl, hcell⟩ := HX.out.at_ (j := m) (by rw [← HN.out.1]; omega)
      have hm := hcell m _ (atD_some (by rw [← HN.out.1]; omega))
      obtain ⟨x, hx⟩ : ∃ x, x = atD xs m := ⟨_, rfl⟩
      rw [← hx] at hm
      have e1 := drop_val TB xs m (by rw [← HN.out.1]; omega)
      rw [← ht.out, ← hx] at e1
      have hle : val TB (xs.drop m) ≤ val TB xs := by
        have := val_take_drop TB xs m (by rw [← HN.out.1]; omega)
        have h1 : 1 * val TB (xs.drop m) ≤ TB ^ m * val TB (xs.drop m) := Nat.mul_le_mul_right _ (Nat.pow_pos TB_pos)
        omega
      have hvv := HN.out.2
      obtain ⟨p, hp⟩ : ∃ p, p = t * TB := ⟨_, rfl⟩
      obtain ⟨s, hs⟩ : ∃ s, s = p + x := ⟨_, rfl⟩
      rw [Nat.mul_comm, ← hp] at e1
      have hsv : s = val TB (xs.drop m) := by omega
      have i1 : (t : Int) * 10000 = (p : Int) := by rw [hp, TB_eq]; omega
      have i2 : (p : Int) + (x : Int) = (s : Int) := by omega
      have i3 : s < 4611686018427387904 := by omega
      have i4 : p < 4611686018427387904 := by omega
      have K := Lib.hid hsv
      clear hcell hx e1 hle hp hs hsv hvv
      go_wp2_with fail
      go_round
      case rel => exact ⟨m, s, rfl, by omega, rfl, K⟩
      case measure => simp [intOf]
theorem value_nm {w : World} {L m : Nat} {a : Value} (ha : Nm w L a m) (hL : L ≤ 1099511627776) (hm : m < 4611686018427387904) : Calls Tryz.prog 90 #[a] w fun e w' => e = .returned (.int .i64 (m : Int)) ∧ w = w' := by
  obtain ⟨xs, ⟨A, c, rfl, a1, a2, a3, a4⟩, a5, rfl⟩ := ha
  exact value_any A c xs w a1 (by omega) hm

set_option maxRecDepth 100000 in
set_option maxHeartbeats 1000000 in
theorem gcd_nm {L a b : Nat} {va vb : Value} (w : World) (ha : Nm w L va a) (hb : Nm w L vb b) (hL : L ≤ 1073741824) :
    Calls Tryz.prog 106 #[va, vb] w fun e w' => ∃ v, e = .returned v ∧ Rs w w' v (Nat.gcd a b) := by
  have HI := Lib.hid (And.intro ha (And.intro hb (And.intro ha.lt hb.lt)))
  clear ha hb
  go_enter Tryz.func106, Tryz.ntmps106
  go_wp2_with fail
  refine (trim_nm HI.out.1 (by omega)).mono ?_; rintro e w1 ⟨v1, rfl, h1⟩
  have H1 := Lib.hid h1
  clear h1
  go_wp2_with fail
  refine (trim_nm (HI.out.2.1.keep H1.out.2) (by omega)).mono ?_; rintro e w2 ⟨v2, rfl, h2⟩
  have H2 := Lib.hid h2
  clear h2
  go_wp2_with fail
  go_loopg [5, 6] b (fun k x y wr => ∃ (m : Nat) (lb d : Nat) (B : Option Addr), y = .slice B lb d ∧ Hid ((dg TB k).length = lb ∧ Nat.gcd m k = Nat.gcd a b ∧ m < TB ^ L ∧ k < TB ^ L) ∧
    Hid (Ow wr w.heap.size x (dg TB m) ∧ Ow wr w.heap.size (.slice B lb d) (dg TB k) ∧ Below w.heap.size w wr))
  case atStart =>
    obtain ⟨A2, c2, rfl, h3, h4⟩ := H2.out.1.slice
    exact ⟨a, _, c2, A2, rfl, ⟨rfl, rfl, HI.out.2.2.1, HI.out.2.2.2⟩, (H1.out.1.keep H2.out.2), H2.out.1.mono H1.out.2.size, below_trans H1.out.2 H2.out.2⟩
  case round =>
    obtain ⟨m, lb, d1, B1, rfl, hv, hO⟩ := hrel
    by_cases h0 : lb = 0
    · subst h0
      go_wp2_with fail
      go_ret
      have hk : gk = 0 := (dg_eq_nil TB_one gk).1 (List.eq_nil_of_length_eq_zero hv.out.1)
      refine ⟨_, rfl, ?_, hO.out.2.2⟩
      have hg := hv.out.2.1
      rw [hk, Nat.gcd_zero_right] at hg
      rw [← hg]
      exact hO.out.1
    · have hk0 : gk ≠ 0 := by
        rintro rfl
        have := hv.out.1
        rw [dg_zero] at this
        exact h0 this.symm
      have hdm := divMod_nm (w := wr) (show Nm wr L _ m from ⟨_, hO.out.1.nl, dg_length_le TB_one hv.out.2.2.1, val_dg TB_one _⟩) (show Nm wr L (.slice B1 lb d1) gk from ⟨_, hO.out.2.1.nl, dg_length_le TB_one hv.out.2.2.2, val_dg TB_one _⟩) hk0 hL hL
      have hpos : (0 : Int) < (lb : Int) := by omega
      have HDM := Lib.hid hdm
      have HK := Lib.hid hk0
      clear hdm hk0
      go_wp2_with fail
      refine HDM.out.mono ?_; rintro e w3 ⟨q, r, rfl, hq, hr⟩
      obtain ⟨A3, c3, rfl, h5, h6⟩ := hr.1.slice
      have H3 := Lib.hid hr
      clear hq hr
      go_wp2_with fail
      have hlt := Nat.mod_lt m (Nat.pos_of_ne_zero HK.out)
      go_roundg (m % gk)
      case measure => exact hlt
      case rel =>
        refine ⟨gk, (dg TB (m % gk)).length, c3, A3, rfl, ⟨rfl, ?_, hv.out.2.2.2, Nat.lt_trans hlt hv.out.2.2.2⟩, hO.out.2.1.keep H3.out.2, H3.out.1.mono hO.out.2.2.size, below_trans hO.out.2.2 H3.out.2⟩
        rw [← hv.out.2.1, Nat.gcd_comm m gk, Nat.gcd_rec gk m, Nat.gcd_comm]
end I
end Go.Proofs.YtgbfpimdnmmfpaaGreatDoor
