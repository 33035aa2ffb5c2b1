/-
  The document's numbers: Add, Sub.
-/
import Derived.Test.YtgbfpimdnmmfpaaGreatDoorI2
namespace Go.Proofs.YtgbfpimdnmmfpaaGreatDoor
namespace I
open Go Go.RowKit Go.Proofs Pl
set_option linter.unusedVariables false

def AddRel (B0 : Nat) (w wr : World) (xs ys : List Nat) (k c : Nat) (v : Value) : Prop :=
  ∃ zs : List Nat, Ow wr B0 v zs ∧ Below B0 w wr ∧ B0 ≤ wr.heap.size ∧ zs.length = k ∧ val TB zs + TB ^ k * c = vt TB xs k + vt TB ys k ∧ c ≤ 1 ∧ (xs.length < k → ys.length < k → c = 0) ∧ k ≤ xs.length + ys.length + 1
/-- One place of a sum, in numbers. -/
theorem add_nums {xs ys : List Nat} {k c : Nat} (hx : All TB xs) (hy : All TB ys) (hc : c ≤ 1) :
    ∃ x y s n d q : Nat, x = atD xs k ∧ y = atD ys k ∧ n = x + y + c ∧ d = n % TB ∧ q = n / TB ∧ (x < 10000 ∧ y < 10000) ∧ ((x : Int) + (y : Int) = (s : Int) ∧ (s : Int) + (c : Int) = (n : Int) ∧ (n : Int) % 10000 = (d : Int) ∧ (n : Int) / 10000 = (q : Int)) ∧ s < 20000 ∧ n < 20001 ∧ d < TB ∧ q ≤ 1 := by
  have h1 := atD_lt hx k
  have h2 := atD_lt hy k
  rw [TB_eq] at h1 h2
  refine ⟨_, _, _, _, _, _, rfl, rfl, rfl, rfl, rfl, ⟨h1, h2⟩, ⟨rfl, rfl, ?_, ?_⟩, ?_, ?_, Nat.mod_lt _ TB_pos, ?_⟩
  · rw [TB_eq]; omega
  · rw [TB_eq]; omega
  · omega
  · omega
  · rw [TB_eq]; omega
theorem AddRel.next {B0 : Nat} {w w5 : World} {xs ys : List Nat} {k c : Nat} {v5 : Value} {n x y d q : Nat} {zs : List Nat} (h : val TB zs + TB ^ k * c = vt TB xs k + vt TB ys k) (hl : zs.length = k) (hx : All TB xs) (hy : All TB ys) (ex : x = atD xs k) (ey : y = atD ys k) (en : n = x + y + c) (ed : d = n % TB) (eq : q = n / TB) (hq : q ≤ 1) (hc : c ≤ 1)
    (hgo : k < xs.length ∨ k < ys.length ∨ 0 < c) (h0 : xs.length < k → ys.length < k → c = 0) (hk : k ≤ xs.length + ys.length + 1) (h1 : Ow w5 B0 v5 (zs ++ [d])) (h2 : Below B0 w w5) (h3 : B0 ≤ w5.heap.size) : AddRel B0 w w5 xs ys (k + 1) q v5 := by
  subst ex; subst ey; subst en; subst ed; subst eq
  refine ⟨_, h1, h2, h3, by rw [List.length_append, List.length_singleton, hl], add_step hl h, hq, fun a b => ?_, by omega⟩
  rw [atD_out (xs := xs) (by omega), atD_out (xs := ys) (by omega)]
  rw [Nat.div_eq_of_lt]
  rw [TB_eq]; omega

set_option maxRecDepth 100000 in
set_option maxHeartbeats 1000000 in
theorem add_any (A B : Option Addr) (c0 d0 : Nat) (xs ys : List Nat) (w : World) (hx : Rd w A xs) (hy : Rd w B ys) (hlx : xs.length ≤ 274877906944) (hly : ys.length ≤ 274877906944) :
    Calls Tryz.prog 67 #[.slice A xs.length c0, .slice B ys.length d0] w fun e w' => ∃ v, e = .returned v ∧ Rs w w' v (val TB xs + val TB ys) := by
  have hp1 := fun (i : Nat) (W : World) (h : Rd W A xs) => place_any A c0 xs i W h (by unfold maxLen; omega)
  have hp2 := fun (i : Nat) (W : World) (h : Rd W B ys) => place_any B d0 ys i W h (by unfold maxLen; omega)
  obtain ⟨la, hla⟩ : ∃ la, la = xs.length := ⟨_, rfl⟩
  obtain ⟨lb, hlb⟩ : ∃ lb, lb = ys.length := ⟨_, rfl⟩
  rw [← hla] at hp1 hlx ⊢
  rw [← hlb] at hp2 hly ⊢
  have HX := Lib.hid (And.intro hx hy)
  have HL := Lib.hid (And.intro hla hlb)
  have HP1 := Lib.hid hp1
  have HP2 := Lib.hid hp2
  clear hx hy hla hlb hp1 hp2
  go_enter Tryz.func67, Tryz.ntmps67
  go_wp2_with fail
  go_loopw [5, 6, 7] (fun v cc i wr => ∃ k c : Nat, i = .int .i64 (k : Int) ∧ cc = .int .i64 (c : Int) ∧ c ≤ 1 ∧ k ≤ la + lb + 1 ∧ Hid (AddRel w.heap.size w wr xs ys k c v)) (fun _ _ i _ => la + lb + 2 - (intOf i).toNat)
  case atStart => exact ⟨0, 0, rfl, rfl, by omega, by omega, [], made_own w 0 0 (by omega) (by decide), below_al _ _, (below_al w _).size, rfl, by simp [val, vt], by omega, fun _ _ => rfl, by omega⟩
  case round =>
    obtain ⟨k, c, rfl, rfl, hc, hk, hS⟩ := hrel
    by_cases hgo : k < la ∨ k < lb ∨ 0 < c
    · obtain ⟨zs, hO, hb, hB, hzl, hv, hc1, hc0, hkk⟩ := hS.out
      obtain ⟨x, y, s, n, d, q, ex, ey, en, ed, eq, ⟨x1, y1⟩, ⟨i1, i2, i3, i4⟩, s1, n1, d1, q1⟩ := add_nums (k := k) HX.out.1.1 HX.out.2.1 hc
      have K := Lib.hid (And.intro hO (And.intro hb (And.intro hB (And.intro hzl (And.intro hv (And.intro hc0 (And.intro ex (And.intro ey (And.intro en (And.intro ed (And.intro eq (And.intro d1 (show zs.length ≤ 1099511627776 by omega)))))))))))))
      have HPX := Lib.hid (HP1.out k)
      have HPY := Lib.hid (HP2.out k)
      rw [← ex] at HPX
      rw [← ey] at HPY
      have HR := Lib.hid (And.intro (HX.out.1.keep hb) (HX.out.2.keep hb))
      have HG := Lib.hid hgo
      have hways : (k : Int) < (la : Int) ∨ (¬ (k : Int) < (la : Int) ∧ (k : Int) < (lb : Int)) ∨ (¬ (k : Int) < (la : Int) ∧ ¬ (k : Int) < (lb : Int) ∧ (0 : Int) < (c : Int)) := by omega
      clear hO hb hB hzl hv hc1 hc0 hkk ex ey en ed eq d1 hS hgo
      rcases hways with g1 | ⟨g1, g2⟩ | ⟨g1, g2, g3⟩
      all_goals
        go_wp2_with fail
        refine (HPX.out _ HR.out.1).mono ?_; rintro e w' ⟨rfl, rfl⟩
        go_wp2_with fail
        refine (HPY.out _ HR.out.2).mono ?_; rintro e w' ⟨rfl, rfl⟩
        go_wp2_with (at_builtin; refine app_one rfl _ _ rfl rfl rfl K.out.1 K.out.2.1 K.out.2.2.1 K.out.2.2.2.2.2.2.2.2.2.2.2.1 K.out.2.2.2.2.2.2.2.2.2.2.2.2 ?_; intro v5 w5 k1 k2 k3)
        have J := Lib.hid (AddRel.next K.out.2.2.2.2.1 K.out.2.2.2.1 HX.out.1.1 HX.out.2.1 K.out.2.2.2.2.2.2.1 K.out.2.2.2.2.2.2.2.1 K.out.2.2.2.2.2.2.2.2.1 K.out.2.2.2.2.2.2.2.2.2.1 K.out.2.2.2.2.2.2.2.2.2.2.1 q1 hc (by rw [← HL.out.1, ← HL.out.2]; exact HG.out) K.out.2.2.2.2.2.1 (by rw [← HL.out.1, ← HL.out.2]; exact hk) k1 k2 k3)
        clear k1 k2 k3
        go_wp2_with fail
        go_roundw
        case rel =>
          refine ⟨k + 1, q, by go_num, rfl, q1, ?_, J.out⟩
          obtain ⟨_, _, _, _, _, _, _, _, h9⟩ := J.out
          rw [HL.out.1, HL.out.2]; exact h9
        case measure => simp [intOf]; omega
    · obtain ⟨zs, hO, hb, hB, hzl, hv, hc1, hc0, hkk⟩ := hS.out
      have hc' : c = 0 := by omega
      subst hc'
      have g1 : ¬ (k : Int) < (la : Int) := by omega
      have g2 : ¬ (k : Int) < (lb : Int) := by omega
      rw [Nat.mul_zero, Nat.add_zero, vt_all _ _ (by have := HL.out.1; omega), vt_all _ _ (by have := HL.out.2; omega)] at hv
      have hnm : Nm wr zs.length _ (val TB xs + val TB ys) := ⟨zs, hO.nl, Nat.le_refl _, hv⟩
      have htr := trim_nm hnm (by omega)
      have HTR := Lib.hid htr
      have HB := Lib.hid hb
      clear hO hb hB hzl hv hc1 hc0 hkk hS hgo htr hnm hc
      go_wp2_with fail
      refine HTR.out.mono ?_; rintro e w6 ⟨v6, rfl, h6⟩
      have H6 := Lib.hid h6
      clear h6
      go_wp2_with fail
      go_ret
      exact ⟨_, rfl, H6.out.1.mono HB.out.size, below_trans HB.out H6.out.2⟩
theorem add_nm {w : World} {L1 L2 m n : Nat} {a b : Value} (ha : Nm w L1 a m) (hb : Nm w L2 b n) (h1 : L1 ≤ 274877906944) (h2 : L2 ≤ 274877906944) : Calls Tryz.prog 67 #[a, b] w fun e w' => ∃ v, e = .returned v ∧ Rs w w' v (m + n) := by
  obtain ⟨xs, ⟨A, c, rfl, a1, a2, a3, a4⟩, a5, rfl⟩ := ha
  obtain ⟨ys, ⟨B, d, rfl, b1, b2, b3, b4⟩, b5, rfl⟩ := hb
  exact add_any A B c d xs ys w a1 b1 (by omega) (by omega)
end I
end Go.Proofs.YtgbfpimdnmmfpaaGreatDoor
