/-
  The document's numbers: Mul.
-/
import Derived.Test.YtgbfpimdnmmfpaaGreatDoorI4
namespace Go.Proofs.YtgbfpimdnmmfpaaGreatDoor
namespace I
open Go Go.RowKit Go.Proofs Pl
set_option linter.unusedVariables false

theorem mul_nums {o ys : List Nat} {x j k c : Nat} (hx : x < TB) (hy : All TB ys) (ho : All TB o) (hc : c < TB) :
    ∃ y z p s n d q : Nat, y = atD ys k ∧ z = atD o (j + k) ∧ n = x * y + z + c ∧ d = n % TB ∧ q = n / TB ∧ ((x : Int) * (y : Int) = (p : Int) ∧ (z : Int) + (p : Int) = (s : Int) ∧ (s : Int) + (c : Int) = (n : Int) ∧ (n : Int) % 10000 = (d : Int) ∧ (n : Int) / 10000 = (q : Int)) ∧ (p < 100000000 ∧ s < 100010000 ∧ n < 100020000) ∧ d < TB ∧ q < TB := by
  have h2 := atD_lt hy k
  have h3 := atD_lt ho (j + k)
  rw [TB_eq] at hx h2 h3 hc
  have h4 : x * atD ys k ≤ 9999 * 9999 := Nat.mul_le_mul (by omega) (by omega)
  refine ⟨_, _, x * atD ys k, atD o (j + k) + x * atD ys k, _, _, _, rfl, rfl, rfl, rfl, rfl, ⟨by rw [Int.natCast_mul], by omega, by omega, ?_, ?_⟩, ⟨by omega, by omega, by omega⟩, Nat.mod_lt _ TB_pos, ?_⟩
  · rw [TB_eq]; omega
  · rw [TB_eq]; omega
  · rw [TB_eq]; omega
theorem mul_high {xs ys o : List Nat} {j k c : Nat} (hx : All TB xs) (hy : All TB ys) (hj : j < xs.length) (h : val TB o + TB ^ (j + k) * c = vt TB xs j * val TB ys + TB ^ j * (atD xs j * vt TB ys k)) (hk : ys.length < k) : c = 0 := by
  rcases Nat.eq_zero_or_pos c with h0 | h0
  · exact h0
  exfalso
  rw [vt_all (xs := ys) TB (by omega)] at h
  have e : vt TB xs j * val TB ys + TB ^ j * (atD xs j * val TB ys) = vt TB xs (j + 1) * val TB ys := by rw [vt, Nat.add_mul, Nat.mul_assoc]
  rw [e, vt_eq] at h
  have h1 := take_lt hx (m := j + 1) (by omega)
  have h2 := val_lt hy
  have h3 : val TB (xs.take (j + 1)) * val TB ys < TB ^ (j + 1 + ys.length) := by rw [Nat.pow_add]; exact Nat.mul_lt_mul'' h1 h2
  have h4 : TB ^ (j + 1 + ys.length) ≤ TB ^ (j + k) := Nat.pow_le_pow_right TB_pos (by omega)
  have h5 : TB ^ (j + k) * 1 ≤ TB ^ (j + k) * c := Nat.mul_le_mul_left _ h0
  omega
theorem mul_done {xs ys o : List Nat} {j k : Nat} (h : val TB o + TB ^ (j + k) * 0 = vt TB xs j * val TB ys + TB ^ j * (atD xs j * vt TB ys k)) (hk : ys.length ≤ k) : val TB o = vt TB xs (j + 1) * val TB ys := by
  rw [vt_all (xs := ys) TB hk] at h
  rw [vt, Nat.add_mul, Nat.mul_assoc, ← h, Nat.mul_zero, Nat.add_zero]

set_option maxRecDepth 100000 in
set_option maxHeartbeats 1000000 in
theorem mul_any (A B : Option Addr) (c0 d0 : Nat) (xs ys : List Nat) (w : World) (hx : Rd w A xs) (hy : Rd w B ys) (hlx : xs.length ≤ 137438953472) (hly : ys.length ≤ 137438953472) :
    Calls Tryz.prog 70 #[.slice A xs.length c0, .slice B ys.length d0] w fun e w' => ∃ v, e = .returned v ∧ Rs w w' v (val TB xs * val TB ys) := by
  have hp2 := fun (i : Nat) (W : World) (h : Rd W B ys) => at_left (place_any B d0 ys i W h (by unfold maxLen; omega))
  obtain ⟨la, hla⟩ : ∃ la, la = xs.length := ⟨_, rfl⟩
  obtain ⟨lb, hlb⟩ : ∃ lb, lb = ys.length := ⟨_, rfl⟩
  obtain ⟨N, hN⟩ : ∃ N, N = la + lb + 1 := ⟨_, rfl⟩
  obtain ⟨M, hM⟩ : ∃ M, M = la + lb := ⟨_, rfl⟩
  rw [← hla] at hlx ⊢
  rw [← hlb] at hp2 hly ⊢
  have hM1 : (la : Int) + (lb : Int) = (M : Int) := by omega
  have hM2 : (M : Int) + 1 = (N : Int) := by omega
  have hN3 : N ≤ 274877906945 := by omega
  have hmk := fun W => make_words N N (Nat.le_refl _) (by omega) W
  have hmo := made_own w N N (Nat.le_refl _) (by unfold maxLen; omega)
  have HX := Lib.hid (And.intro hx hy)
  have HL := Lib.hid (And.intro hla (And.intro hlb (And.intro hN hM)))
  have HP2 := Lib.hid hp2
  have HMO := Lib.hid hmo
  clear hx hy hla hlb hp2 hN hmo hM
  go_enter Tryz.func70, Tryz.ntmps70
  go_wp2_with fail
  clear hmk
  go_loopw [6] (fun i wr => ∃ (j : Nat) (o : List Nat), i = .int .i64 (j : Int) ∧ j ≤ la ∧ Hid (Ow wr w.heap.size (.slice (some ⟨w.heap.size, 0, none⟩) N N) o ∧ Below w.heap.size w wr ∧ o.length = N ∧ val TB o = vt TB xs j * val TB ys)) (fun i _ => la - (intOf i).toNat)
  case atStart => exact ⟨0, List.replicate N 0, rfl, by omega, HMO.out, below_al _ _, List.length_replicate, by rw [val_replicate, vt, Nat.zero_mul]⟩
  case round =>
    obtain ⟨j, o0, rfl, hj, hS⟩ := hrel
    by_cases hgo : j < la
    · obtain ⟨wo, hwo⟩ : ∃ wo : World, wo = wr := ⟨_, rfl⟩
      rw [← hwo] at hS ⊢
      clear hwo
      obtain ⟨b, oo, rfl, hcell⟩ := HX.out.1.at_ (j := j) (by rw [← HL.out.1]; exact hgo)
      have hmx := hcell j _ (atD_some (by rw [← HL.out.1]; exact hgo))
      obtain ⟨x, hx⟩ : ∃ x, x = atD xs j := ⟨_, rfl⟩
      have hxT : x < TB := by rw [hx]; exact atD_lt HX.out.1.1 j
      rw [← hx] at hmx
      have HXX := Lib.hid (And.intro hx (And.intro hxT hmx))
      clear hcell hmx hx hxT
      go_wp2_with fail
      go_loopw [7, 8] (fun cc kk wr => ∃ (c k : Nat) (o : List Nat), cc = .int .i64 (c : Int) ∧ kk = .int .i64 (k : Int) ∧ c < 10000 ∧ k ≤ lb + 1 ∧ (lb < k → c = 0) ∧ Hid (Ow wr w.heap.size (.slice (some ⟨w.heap.size, 0, none⟩) N N) o ∧ Below w.heap.size w wr ∧ o.length = N ∧ val TB o + TB ^ (j + k) * c = vt TB xs j * val TB ys + TB ^ j * (atD xs j * vt TB ys k))) (fun _ kk _ => lb + 2 - (intOf kk).toNat)
      case atStart => exact ⟨0, 0, o0, rfl, rfl, by omega, by omega, by omega, hS.out.1, hS.out.2.1, hS.out.2.2.1, by rw [hS.out.2.2.2]; simp [vt]⟩
      case round =>
        obtain ⟨c, k, o, rfl, rfl, hc, hk, hck, hT⟩ := hrel
        by_cases hg2 : k < lb ∨ 0 < c
        · have hklb : k ≤ lb := by omega
          obtain ⟨y, z, p, s, n, d, q, ey, ez, en, ed, eq, ⟨i1, i2, i3, i4, i5⟩, ⟨b1, b2, b3⟩, d1, q1⟩ := mul_nums (x := x) (j := j) (k := k) (c := c) HXX.out.2.1 HX.out.2.1 hT.out.1.1 (by rw [TB_eq]; exact hc)
          obtain ⟨jk, hjk⟩ : ∃ jk, jk = j + k := ⟨_, rfl⟩
          have hjkI : (j : Int) + (k : Int) = (jk : Int) := by omega
          have hjkN : jk < N := by have := HL.out.2.2.1; omega
          have hmx : wr.cell? ⟨b, oo + j, none⟩ = some (.int .i64 (x : Int)) := (hT.out.2.1.cell (p := ⟨b, oo + j, none⟩) (cell_lt HXX.out.2.2)).trans HXX.out.2.2
          obtain ⟨g', hg', -, -, -, -, -, hcs, hfr⟩ := hT.out.1.at_ (j := jk) (by rw [hT.out.2.2.1]; exact hjkN)
          injection hg' with hg'
          injection hg' with hg'
          subst hg'
          have hmz := hcs jk _ (atD_some (by rw [hT.out.2.2.1]; exact hjkN))
          have hfz := hfr jk
          rw [← hjk] at ez
          rw [← ez] at hmz
          have hst := mul_step (B := TB) (o := o) (o0 := o0) (ys := ys) (x := atD xs j) (i := j) (k := k) (c := c) (by rw [hT.out.2.2.1, ← hjk]; exact hjkN) (by rw [hS.out.2.2.2]; exact hT.out.2.2.2)
          rw [← hjk, ← ey, ← ez, ← HXX.out.1, ← en, ← ed, ← eq, hS.out.2.2.2, HXX.out.1] at hst
          have hO2 := fun nq : Nat => (hT.out.1.drewN nq).set_ hT.out.2.2.1.symm (j := jk) (x := d) d1
          have hb2 : ∀ nq : Nat, Below w.heap.size w ((wr.drewN nq).setCell ⟨w.heap.size, jk, none⟩ (.int .i64 (d : Int))) := fun nq => (below_drewN hT.out.2.1 nq).setCell (p := ⟨w.heap.size, jk, none⟩) (Nat.le_refl _) _
          have HPY := Lib.hid (HP2.out k)
          rw [← ey] at HPY
          have HR := Lib.hid (HX.out.2.keep hT.out.2.1)
          have q2 : q < 10000 := by rw [TB_eq] at q1; exact q1
          have hq0 : lb < k + 1 → q = 0 := fun h => mul_high HX.out.1.1 HX.out.2.1 (by rw [← HL.out.1]; exact hgo) hst (by rw [← HL.out.2.1]; exact h)
          have K := Lib.hid (And.intro hO2 (And.intro hb2 (And.intro (show (o.set jk d).length = N by rw [List.length_set]; exact hT.out.2.2.1) (And.intro hst hq0))))
          have hways : (k : Int) < (lb : Int) ∨ (¬ (k : Int) < (lb : Int) ∧ (0 : Int) < (c : Int)) := by omega
          have j0 : (0 : Int) ≤ (j : Int) := by omega
          have j1 : (j : Int) < (la : Int) := by omega
          have j2 : (0 : Int) ≤ (jk : Int) := by omega
          have j3 : (jk : Int) < (N : Int) := by omega
          have k0 : (k : Int) ≤ 137438953472 := by omega
          clear hg2 hck hT ey ez en ed eq d1 q1 hjk hcs hfr hst hO2 hb2 hS hq0
          rcases hways with g1 | ⟨g1, g2⟩
          all_goals
            go_wp2_with fail
            go_quiet ((go_at_call 103; exact Calls.quiet_of_same (HPY.out _ HR.out)))
            go_wp2_with fail
            go_roundw
            case rel => exact ⟨q, k + 1, o.set jk d, rfl, by go_num, q2, by omega, K.out.2.2.2.2, K.out.1 _, K.out.2.1 _, K.out.2.2.1, K.out.2.2.2.1⟩
            case measure => simp [intOf]; omega
        · have hc0 : c = 0 := by omega
          subst hc0
          have g1 : ¬ (k : Int) < (lb : Int) := by omega
          have hd := mul_done hT.out.2.2.2 (by rw [← HL.out.2.1]; omega)
          have K := Lib.hid (And.intro hT.out.1 (And.intro hT.out.2.1 (And.intro hT.out.2.2.1 hd)))
          clear hd hT hg2 hc hck hS
          go_wp2_with fail
          go_roundw
          case rel => exact ⟨j + 1, o, by go_num, by omega, K.out⟩
          case measure => simp [intOf]; omega
    · obtain rfl : j = la := by omega
      have hnm : Nm wr o0.length _ (val TB xs * val TB ys) := ⟨o0, hS.out.1.nl, Nat.le_refl _, by rw [hS.out.2.2.2, vt_all TB xs (by have := HL.out.1; omega)]⟩
      have htr := trim_nm hnm (by rw [hS.out.2.2.1]; omega)
      have HTR := Lib.hid htr
      have HB := Lib.hid hS.out.2.1
      clear hS hgo htr hnm
      go_wp2_with fail
      refine HTR.out.mono ?_; rintro e w6 ⟨v6, rfl, h6⟩
      have H6 := Lib.hid h6
      clear h6
      go_wp2_with fail
      go_ret
      exact ⟨_, rfl, H6.out.1.mono HB.out.size, below_trans HB.out H6.out.2⟩
theorem mul_nm {w : World} {L1 L2 m n : Nat} {a b : Value} (ha : Nm w L1 a m) (hb : Nm w L2 b n) (h1 : L1 ≤ 137438953472) (h2 : L2 ≤ 137438953472) : Calls Tryz.prog 70 #[a, b] w fun e w' => ∃ v, e = .returned v ∧ Rs w w' v (m * n) := by
  obtain ⟨xs, ⟨A, c, rfl, a1, a2, a3, a4⟩, a5, rfl⟩ := ha
  obtain ⟨ys, ⟨B, d, rfl, b1, b2, b3, b4⟩, b5, rfl⟩ := hb
  exact mul_any A B c d xs ys w a1 b1 (by omega) (by omega)
end I
end Go.Proofs.YtgbfpimdnmmfpaaGreatDoor
