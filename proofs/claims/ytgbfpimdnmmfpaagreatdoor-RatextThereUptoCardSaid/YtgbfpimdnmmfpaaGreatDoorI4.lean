/-
  The document's numbers: Sub.
-/
import Derived.Test.YtgbfpimdnmmfpaaGreatDoorI3
namespace Go.Proofs.YtgbfpimdnmmfpaaGreatDoor
namespace I
open Go Go.RowKit Go.Proofs Pl
set_option linter.unusedVariables false

def SubRel (B0 : Nat) (w wr : World) (xs ys : List Nat) (k c : Nat) (v : Value) : Prop :=
  ∃ zs : List Nat, Ow wr B0 v zs ∧ Below B0 w wr ∧ B0 ≤ wr.heap.size ∧ zs.length = k ∧ val TB zs + vt TB ys k = vt TB xs k + TB ^ k * c ∧ c ≤ 1
theorem sub_nums {xs ys : List Nat} {k c : Nat} (hx : All TB xs) (hy : All TB ys) (hc : c ≤ 1) :
    ∃ x y d : Nat, ∃ t : Int, x = atD xs k ∧ y = atD ys k ∧ d = (x + TB - y - c) % TB ∧ (x < 10000 ∧ y < 10000) ∧ ((x : Int) - (y : Int) - (c : Int) = t) ∧ -10001 ≤ t ∧ t < 10000 ∧ d < TB ∧ ((x < y + c ∧ t < 0 ∧ t + 10000 = (d : Int)) ∨ (¬ x < y + c ∧ ¬ t < 0 ∧ t = (d : Int))) := by
  have h1 := atD_lt hx k
  have h2 := atD_lt hy k
  rw [TB_eq] at h1 h2
  refine ⟨_, _, _, _, rfl, rfl, rfl, ⟨h1, h2⟩, rfl, by omega, by omega, Nat.mod_lt _ TB_pos, ?_⟩
  rw [TB_eq]
  by_cases h : atD xs k < atD ys k + c
  · exact .inl ⟨h, by omega, by omega⟩
  · exact .inr ⟨h, by omega, by omega⟩
theorem SubRel.next {B0 : Nat} {w w5 : World} {xs ys : List Nat} {k c q : Nat} {v5 : Value} {x y d : Nat} {zs : List Nat} (h : val TB zs + vt TB ys k = vt TB xs k + TB ^ k * c) (hl : zs.length = k) (hx : All TB xs) (hy : All TB ys) (ex : x = atD xs k) (ey : y = atD ys k) (ed : d = (x + TB - y - c) % TB) (hq : q = if x < y + c then 1 else 0) (hc : c ≤ 1)
    (h1 : Ow w5 B0 v5 (zs ++ [d])) (h2 : Below B0 w w5) (h3 : B0 ≤ w5.heap.size) : SubRel B0 w w5 xs ys (k + 1) q v5 := by
  subst ex; subst ey; subst ed
  refine ⟨_, h1, h2, h3, by rw [List.length_append, List.length_singleton, hl], ?_, by rw [hq]; split <;> omega⟩
  rw [hq]
  exact sub_step TB_pos (atD_lt hx k) (atD_lt hy k) hc hl h

set_option maxRecDepth 100000 in
set_option maxHeartbeats 1000000 in
theorem sub_any (A B : Option Addr) (c0 d0 : Nat) (xs ys : List Nat) (w : World) (hx : Rd w A xs) (hy : Rd w B ys) (hlx : xs.length ≤ 274877906944) (hll : ys.length ≤ xs.length) (hle : val TB ys ≤ val TB xs) :
    Calls Tryz.prog 69 #[.slice A xs.length c0, .slice B ys.length d0] w fun e w' => ∃ v, e = .returned v ∧ Rs w w' v (val TB xs - val TB ys) := by
  have hp2 := fun (i : Nat) (W : World) (h : Rd W B ys) => at_left (place_any B d0 ys i W h (by unfold maxLen; omega))
  obtain ⟨la, hla⟩ : ∃ la, la = xs.length := ⟨_, rfl⟩
  obtain ⟨lb, hlb⟩ : ∃ lb, lb = ys.length := ⟨_, rfl⟩
  rw [← hla] at hlx ⊢
  rw [← hlb] at hp2 ⊢
  have HX := Lib.hid (And.intro hx hy)
  have HL := Lib.hid (And.intro hla (And.intro hll hle))
  have HP2 := Lib.hid hp2
  clear hx hy hla hlb hp2 hll hle
  go_enter Tryz.func69, Tryz.ntmps69
  go_wp2_with fail
  go_loopw [5, 6, 7] (fun v cc i wr => ∃ k c : Nat, i = .int .i64 (k : Int) ∧ cc = .int .i64 (c : Int) ∧ c ≤ 1 ∧ k ≤ la ∧ Hid (SubRel w.heap.size w wr xs ys k c v)) (fun _ _ i _ => la - (intOf i).toNat)
  case atStart => exact ⟨0, 0, rfl, rfl, by omega, by omega, [], made_own w 0 0 (by omega) (by decide), below_al _ _, (below_al w _).size, rfl, by simp [val, vt], by omega⟩
  case round =>
    obtain ⟨k, c, rfl, rfl, hc, hk, hS⟩ := hrel
    obtain ⟨zs, hO, hb, hB, hzl, hv, hc1⟩ := hS.out
    by_cases hgo : k < la
    · obtain ⟨x, y, d, t, ex, ey, ed, ⟨x1, y1⟩, it, t1, t2, d1, hw⟩ := sub_nums (k := k) HX.out.1.1 HX.out.2.1 hc
      obtain ⟨b, o, rfl, hcell⟩ := (HX.out.1.keep hb).at_ (j := k) (by rw [← HL.out.1]; exact hgo)
      have hm := hcell k _ (atD_some (by rw [← HL.out.1]; exact hgo))
      rw [← ex] at hm
      have i0 : (0 : Int) ≤ (k : Int) := by omega
      have i1 : (k : Int) < (la : Int) := by omega
      have K := Lib.hid (And.intro hO (And.intro hb (And.intro hB (And.intro hzl (And.intro hv (And.intro ex (And.intro ey (And.intro ed (And.intro d1 (show zs.length ≤ 1099511627776 by omega))))))))))
      have HPY := Lib.hid (HP2.out k)
      rw [← ey] at HPY
      have HR := Lib.hid (HX.out.2.keep hb)
      clear hO hb hB hzl hv hc1 ex ey ed d1 hS hcell hgo
      rcases hw with ⟨g1, g2, g3⟩ | ⟨g1, g2, g3⟩
      · have G1 := Lib.hid g1
        clear g1
        go_wp2_with fail
        go_quiet ((go_at_call 103; exact Calls.quiet_of_same (HPY.out _ HR.out)))
        go_wp2_with (at_builtin; refine app_one rfl _ _ rfl rfl rfl (K.out.1.drewN _) (below_drewN K.out.2.1 _) K.out.2.2.1 K.out.2.2.2.2.2.2.2.2.1 K.out.2.2.2.2.2.2.2.2.2 ?_; intro v5 w5 k1 k2 k3)
        have J := Lib.hid (SubRel.next (q := 1) K.out.2.2.2.2.1 K.out.2.2.2.1 HX.out.1.1 HX.out.2.1 K.out.2.2.2.2.2.1 K.out.2.2.2.2.2.2.1 K.out.2.2.2.2.2.2.2.1 (by rw [if_pos G1.out]) hc k1 k2 k3)
        clear k1 k2 k3
        go_wp2_with fail
        go_roundw
        case rel => exact ⟨k + 1, 1, by go_num, rfl, by omega, by omega, J.out⟩
        case measure => simp [intOf]; omega
      · have G1 := Lib.hid g1
        subst g3
        clear g1
        go_wp2_with fail
        go_quiet ((go_at_call 103; exact Calls.quiet_of_same (HPY.out _ HR.out)))
        go_wp2_with (at_builtin; refine app_one rfl _ _ rfl rfl rfl (K.out.1.drewN _) (below_drewN K.out.2.1 _) K.out.2.2.1 K.out.2.2.2.2.2.2.2.2.1 K.out.2.2.2.2.2.2.2.2.2 ?_; intro v5 w5 k1 k2 k3)
        have J := Lib.hid (SubRel.next (q := 0) K.out.2.2.2.2.1 K.out.2.2.2.1 HX.out.1.1 HX.out.2.1 K.out.2.2.2.2.2.1 K.out.2.2.2.2.2.2.1 K.out.2.2.2.2.2.2.2.1 (by rw [if_neg G1.out]) hc k1 k2 k3)
        clear k1 k2 k3
        go_wp2_with fail
        go_roundw
        case rel => exact ⟨k + 1, 0, by go_num, rfl, by omega, by omega, J.out⟩
        case measure => simp [intOf]; omega
    · obtain rfl : k = la := by omega
      rw [vt_all _ _ (by have := HL.out.1; have := HL.out.2.1; omega), vt_all _ _ (by have := HL.out.1; have := HL.out.2.1; omega)] at hv
      have hz := val_lt hO.1
      have hval : val TB zs = val TB xs - val TB ys := by
        have h3 := HL.out.2.2
        rw [hzl] at hz
        have h4 : c = 0 ∨ c = 1 := by omega
        rcases h4 with rfl | rfl <;> omega
      have hnm : Nm wr zs.length _ (val TB xs - val TB ys) := ⟨zs, hO.nl, Nat.le_refl _, hval⟩
      have htr := trim_nm hnm (by omega)
      have HTR := Lib.hid htr
      have HB := Lib.hid hb
      clear hO hb hB hzl hv hc1 hS hgo htr hnm hz hval
      go_wp2_with fail
      refine HTR.out.mono ?_; rintro e w6 ⟨v6, rfl, h6⟩
      have H6 := Lib.hid h6
      clear h6
      go_wp2_with fail
      go_ret
      exact ⟨_, rfl, H6.out.1.mono HB.out.size, below_trans HB.out H6.out.2⟩
end I
end Go.Proofs.YtgbfpimdnmmfpaaGreatDoor
