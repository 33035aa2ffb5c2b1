/-
  The document's numbers: DivMod, walked.
-/
import Derived.Test.YtgbfpimdnmmfpaaGreatDoorI6
namespace Go.Proofs.YtgbfpimdnmmfpaaGreatDoor
namespace I
open Go Go.RowKit Go.Proofs Pl
set_option linter.unusedVariables false

theorem ow_empty (W : World) (b : Nat) (hb : b = W.heap.size) : Ow (W.alloc (.cells #[] 3)) W.heap.size (.slice (some ⟨b, 0, none⟩) 0 0) [] := by
  subst hb
  exact made_own W 0 0 (by omega) (by decide)

set_option maxRecDepth 100000 in
set_option maxHeartbeats 2000000 in
theorem divMod_any (A : Option Addr) (c0 : Nat) (xs : List Nat) (b : Value) (L n : Nat) (w : World) (hx : Rd w A xs) (hb : Nm w L b n) (h0 : n ≠ 0) (hlx : xs.length ≤ 1073741824) (hL : L ≤ 1073741824) :
    Calls Tryz.prog 54 #[.slice A xs.length c0, b] w fun e w' => ∃ q r, e = .returned (.tuple #[q, r]) ∧ Rs w w' q (val TB xs / n) ∧ Rs w w' r (val TB xs % n) := by
  obtain ⟨la, hla⟩ : ∃ la, la = xs.length := ⟨_, rfl⟩
  rw [← hla] at hlx ⊢
  have hmk := fun W => make_words la la (Nat.le_refl _) (by omega) W
  have hmo := made_own w la la (Nat.le_refl _) (by unfold maxLen; omega)
  have he := ow_empty (w.alloc (.cells (wis (List.replicate la 0)).toArray 3)) (w.heap.size + 1) (by simp)
  have hst : DivRel n xs w.heap.size w.heap.size la w ((w.alloc (.cells (wis (List.replicate la 0)).toArray 3)).alloc (.cells #[] 3)) la (.slice (some ⟨w.heap.size + 1, 0, none⟩) 0 0) :=
    ⟨0, List.replicate la 0, by rw [dg_zero]; exact he.mono (below_al _ _).size, hmo.keep (below_al _ _), List.length_replicate, below_trans (below_al _ _) (below_al _ _), by rw [List.drop_eq_nil_of_le (by omega), List.drop_eq_nil_of_le (by simp)]; simp [val], by omega, by simp; omega⟩
  have HST := Lib.hid hst
  have HX := Lib.hid hx
  have HB := Lib.hid hb
  have HN := Lib.hid (And.intro hla (And.intro h0 hb.lt))
  clear hx hb hla h0 hmo he hst
  go_enter Tryz.func54, Tryz.ntmps54
  go_wp2_with fail
  clear hmk
  go_loopw [7, 8] (fun rv i wr => ∃ k : Nat, i = .int .i64 ((k : Int) - 1) ∧ k ≤ la ∧ Hid (DivRel n xs w.heap.size w.heap.size la w wr k rv)) (fun _ i _ => (intOf i + 1).toNat)
  case atStart => exact ⟨la, rfl, Nat.le_refl _, HST.out⟩
  case round =>
    obtain ⟨k, rfl, hk, hS⟩ := hrel
    obtain ⟨R, qs, hr, hq, hql, hbw, hv, hRn, hgw⟩ := hS.out
    cases k with
    | zero =>
      have hw0 : (((0 : Nat) : Int) - 1) = -1 := by omega
      rw [hw0]
      clear hw0
      rw [List.drop_zero, List.drop_zero] at hv
      obtain ⟨e1, e2⟩ := by_end (n := 0) hv hRn
      have hnm : Nm wr qs.length _ (val TB xs / n) := ⟨qs, hq.nl, Nat.le_refl _, e1⟩
      have htr := trim_nm hnm (by omega)
      rw [e2] at hr
      have HTR := Lib.hid htr
      have K := Lib.hid (And.intro hr hbw)
      clear htr hr hbw hS hq hql hv hRn hgw hnm e1 e2
      go_wp2_with fail
      refine HTR.out.mono ?_; rintro e w6 ⟨v6, rfl, h6⟩
      have H6 := Lib.hid h6
      clear h6
      go_wp2_with fail
      go_ret2
      exact ⟨_, _, rfl, ⟨H6.out.1.mono K.out.2.size, below_trans K.out.2 H6.out.2⟩, ⟨K.out.1.keep H6.out.2, below_trans K.out.2 H6.out.2⟩⟩
    | succ m =>
      have hkm : (((m + 1 : Nat) : Int) - 1) = (m : Int) := by omega
      rw [hkm]
      clear hkm
      have hml : m < la := by omega
      obtain ⟨ab, ao, rfl, hcell⟩ := (HX.out.keep hbw).at_ (j := m) (by rw [← HN.out.1]; exact hml)
      have hmx := hcell m _ (atD_some (by rw [← HN.out.1]; exact hml))
      obtain ⟨x, hx⟩ : ∃ x, x = atD xs m := ⟨_, rfl⟩
      have hxT : x < TB := by rw [hx]; exact atD_lt HX.out.1 m
      rw [← hx] at hmx
      have i0 : (0 : Int) ≤ (m : Int) := by omega
      have i1 : (m : Int) < (la : Int) := by omega
      have hRL : (dg TB R).length ≤ L := dg_length_le TB_one (Nat.lt_trans hRn HN.out.2.2)
      have K := Lib.hid (And.intro hr (And.intro hq (And.intro hql (And.intro hbw (And.intro hv (And.intro hRn (And.intro hgw (And.intro hx (And.intro hxT (show (dg TB R).length ≤ 1099511627776 by omega))))))))))
      clear hr hq hql hbw hv hRn hgw hx hxT hS hcell
      go_wp2_with (at_builtin; refine app_front rfl _ _ rfl rfl rfl rfl K.out.1.nl K.out.2.2.2.2.2.2.2.2.1 K.out.2.2.2.2.2.2.2.2.2 ?_; intro v5 w5 k1 k2)
      obtain ⟨R1, hR1⟩ : ∃ R1, R1 = R * TB + x := ⟨_, rfl⟩
      have hnm : Nm w5 (x :: dg TB R).length v5 R1 := ⟨_, k1.nl, Nat.le_refl _, by rw [val_cons, val_dg TB_one, hR1, Nat.mul_comm]; omega⟩
      have htr := trim_nm hnm (by rw [List.length_cons]; omega)
      have HTR := Lib.hid htr
      have J := Lib.hid (And.intro k2 hR1)
      clear k1 k2 hR1 hnm htr
      refine HTR.out.mono ?_; rintro e w6 ⟨v6, rfl, h6⟩
      have hb6 : Below wr.heap.size wr w6 := below_trans J.out.1 h6.2
      have hlow0 : 0 * n ≤ R1 := by omega
      have hhigh0 : R1 < TB * n := by
        have h1 : (R + 1) * TB ≤ n * TB := Nat.mul_le_mul_right _ K.out.2.2.2.2.2.1
        rw [Nat.add_mul, Nat.mul_comm n TB] at h1
        have h2 := K.out.2.2.2.2.2.2.2.2.1
        have h3 := J.out.2
        omega
      have hg5 : w.heap.size < w5.heap.size := Nat.lt_of_lt_of_le K.out.2.2.2.2.2.2.1 J.out.1.size
      have M := Lib.hid (And.intro h6.1 (And.intro (K.out.2.1.keep hb6) (And.intro (below_trans K.out.2.2.2.1 hb6) (And.intro hlow0 (And.intro hhigh0 (And.intro hg5 h6.2.size))))))
      clear h6 hb6 hlow0 hhigh0 hg5 HTR hRL
      go_wp2_with fail
      go_loopw [9, 10] (fun lo hi wr2 => ∃ low high : Nat, lo = .int .i64 (low : Int) ∧ hi = .int .i64 (high : Int) ∧ low < high ∧ high ≤ 10000 ∧ Hid (Below w6.heap.size w6 wr2 ∧ low * n ≤ R1 ∧ R1 < high * n)) (fun lo hi _ => (intOf hi).toNat - (intOf lo).toNat)
      case atStart => exact ⟨0, 10000, rfl, rfl, by omega, by omega, Below.refl _ _, M.out.2.2.2.1, by have := M.out.2.2.2.2.1; rw [TB_eq] at this; exact this⟩
      case round =>
        obtain ⟨low, high, rfl, rfl, hlh, hh, hT⟩ := hrel
        by_cases hgo : low + 1 < high
        · obtain ⟨sm, mid, j1, j2, j3, j4, j5, j6⟩ := div_nums hgo (by rw [TB_eq]; exact hh)
          have hgt : (1 : Int) < (high : Int) - (low : Int) := by omega
          have hbw2 := below_trans M.out.2.2.1 hT.out.1
          have hlit := nm_one wr mid wr.heap.size rfl j6
          have hmul := mul_nm ((HB.out.keep hbw2).keep (below_al wr _)) hlit (by omega) (by decide)
          have HMU := Lib.hid hmul
          have T := Lib.hid (And.intro hT.out (And.intro hbw2 (And.intro j4 (And.intro j5 j6))))
          clear hlit hmul hbw2 hT j4 j5 j6 hgo
          go_wp2_with fail
          refine HMU.out.mono ?_; rintro e w7 ⟨v7, rfl, h7⟩
          have hb7 : Below wr.heap.size wr w7 := below_trans (below_al wr _) h7.2
          have hb67 : Below w6.heap.size w6 w7 := below_trans T.out.1.1 hb7
          have hc := cmp_nm (L1 := L + 1) (L2 := 1073741825) (h7.nm (L := L + 1) (by
            have h1 := HN.out.2.2
            have h2 := T.out.2.2.2.2
            have h3 : n * mid < TB ^ L * TB := Nat.mul_lt_mul'' h1 h2
            rw [Nat.pow_succ]; exact h3)) (show Nm w7 1073741825 v6 R1 from ⟨_, (M.out.1.keep hb67).nl, by
              have h1 : R1 < TB ^ (L + 1) := by
                have h2 := M.out.2.2.2.2.1
                have h3 : TB * n < TB * TB ^ L := Nat.mul_lt_mul_of_pos_left HN.out.2.2 TB_pos
                rw [Nat.pow_succ, Nat.mul_comm]; omega
              have := dg_length_le TB_one h1
              omega, val_dg TB_one _⟩) (by omega) (by omega)
          obtain ⟨sg, hsg⟩ : ∃ sg, sg = cmpN (n * mid) R1 := ⟨_, rfl⟩
          rw [← hsg] at hc
          have HC := Lib.hid hc
          have hw : (sg ≤ 0 ∧ mid * n ≤ R1) ∨ (¬ sg ≤ 0 ∧ R1 < mid * n) := by
            rw [hsg, cmpN, Nat.mul_comm mid n]
            split
            · exact .inl ⟨by omega, by omega⟩
            · split
              · exact .inr ⟨by omega, by omega⟩
              · exact .inl ⟨by omega, by omega⟩
          have T7 := Lib.hid (And.intro hb67 (And.intro T.out.1.2.1 (And.intro T.out.1.2.2 (And.intro T.out.2.2.1 T.out.2.2.2.1))))
          clear h7 hb7 hb67 hc hsg HMU T
          go_wp2_with fail
          refine HC.out.mono ?_; rintro e w' ⟨rfl, rfl⟩
          rcases hw with ⟨g1, g2⟩ | ⟨g1, g2⟩
          · have G2 := Lib.hid g2
            clear g2
            go_wp2_with fail
            go_roundw
            case rel => exact ⟨mid, high, rfl, rfl, T7.out.2.2.2.2, by omega, T7.out.1, G2.out, T7.out.2.2.1⟩
            case measure => have := T7.out.2.2.2.1; have := T7.out.2.2.2.2; simp [intOf]; omega
          · have G2 := Lib.hid g2
            clear g2
            go_wp2_with fail
            go_roundw
            case rel => exact ⟨low, mid, rfl, rfl, T7.out.2.2.2.1, by have := T7.out.2.2.2.2; omega, T7.out.1, T7.out.2.1, G2.out⟩
            case measure => have := T7.out.2.2.2.1; have := T7.out.2.2.2.2; simp [intOf]; omega
        · have hgt : ¬ (1 : Int) < (high : Int) - (low : Int) := by omega
          obtain rfl : high = low + 1 := by omega
          have hlT : low < TB := by rw [TB_eq]; omega
          have hq2 := M.out.2.1.keep hT.out.1
          obtain ⟨g', hg', -, -, hgs, -, -, hcs, hfr⟩ := hq2.at_ (j := m) (by rw [K.out.2.2.1]; exact hml)
          injection hg' with hg'
          injection hg' with hg'
          subst hg'
          have hmq := hcs m _ (atD_some (by rw [K.out.2.2.1]; exact hml))
          have hfq := hfr m
          have hbw2 := below_trans M.out.2.2.1 hT.out.1
          have hbs : Below w.heap.size w (wr.setCell ⟨w.heap.size, m, none⟩ (.int .i64 (low : Int))) := hbw2.setCell (p := ⟨w.heap.size, m, none⟩) (Nat.le_refl _) _
          have hgr := Lib.grownBy_setCell wr w.heap.size m (.int .i64 (low : Int))
          have hr2 : Ow (wr.setCell ⟨w.heap.size, m, none⟩ (.int .i64 (low : Int))) w5.heap.size v6 (dg TB R1) := (M.out.1.keep hT.out.1).far hgr M.out.2.2.2.2.2.1
          have hqs := hq2.set_ K.out.2.2.1.symm (j := m) (x := low) hlT
          have T := Lib.hid (And.intro hbs (And.intro hr2 (And.intro hqs (And.intro hlT (And.intro hT.out.2.1 (And.intro hT.out.2.2 hgs))))))
          clear hq2 hcs hfr hbw2 hbs hgr hr2 hqs hlT hgs hT
          go_wp2_with fail
          obtain ⟨ws, hws⟩ : ∃ ws : World, ws = wr.setCell ⟨w.heap.size, m, none⟩ (.int .i64 (low : Int)) := ⟨_, rfl⟩
          have hwsz : wr.heap.size = ws.heap.size := by rw [hws]; simp [World.setCell]
          rw [← hws] at T ⊢
          have hlit := nm_one ws low wr.heap.size hwsz T.out.2.2.2.1
          refine (mul_nm ((HB.out.keep T.out.1).keep (below_al ws _)) hlit (by omega) (by decide)).mono ?_; rintro e w8 ⟨v8, rfl, h8⟩
          have hb8 : Below ws.heap.size ws w8 := below_trans (below_al ws _) h8.2
          have T8 := Lib.hid (And.intro (T.out.2.1.keep hb8) (And.intro (T.out.2.2.1.keep hb8) (And.intro (below_trans T.out.1 hb8) h8.nl)))
          have hln : n * low ≤ R1 := by rw [Nat.mul_comm]; exact T.out.2.2.2.2.1
          have hR1L : (dg TB R1).length ≤ 274877906944 := by
            have h1 : R1 < TB ^ (L + 1) := by
              have h2 := M.out.2.2.2.2.1
              have h3 : TB * n < TB * TB ^ L := Nat.mul_lt_mul_of_pos_left HN.out.2.2 TB_pos
              rw [Nat.pow_succ, Nat.mul_comm]; omega
            have := dg_length_le TB_one h1
            omega
          have hpl := div_place (low := low) (x := x) (R := R) (k := m) (xs := xs) (qs := qs) (n := n) (la := la) (by rw [← J.out.2]; exact T.out.2.2.2.2.1) (by rw [← J.out.2]; exact T.out.2.2.2.2.2.1) K.out.2.2.2.2.2.2.2.1 (by rw [← HN.out.1]; exact hml) (by rw [K.out.2.2.1]; exact hml) K.out.2.2.2.2.1
          rw [← J.out.2] at hpl
          have P := Lib.hid hpl
          have hsub := sub_rs T8.out.1.nl T8.out.2.2.2 hR1L hln
          have HSU := Lib.hid hsub
          have hg8 : w.heap.size < w8.heap.size := by
            have h1 := T.out.2.2.2.2.2.2
            have h2 := hb8.size
            omega
          have HG8 := Lib.hid hg8
          clear h8 hb8 hlit hws hwsz hln hR1L hpl hsub T hg8
          go_wp2_with fail
          refine HSU.out.mono ?_; rintro e w9 ⟨v9, rfl, h9⟩
          have D : Hid (DivRel n xs w.heap.size w.heap.size la w w9 m v9) := ⟨_, _, h9.1.mono T8.out.2.2.1.size, T8.out.2.1.keep h9.2, by rw [List.length_set]; exact K.out.2.2.1, below_trans T8.out.2.2.1 h9.2, P.out.1, P.out.2, Nat.lt_of_lt_of_le HG8.out h9.2.size⟩
          clear h9
          go_wp2_with fail
          go_roundw
          case rel => exact ⟨m, rfl, by omega, D⟩
          case measure => simp [intOf]
theorem divMod_nm {w : World} {L1 L2 m n : Nat} {a b : Value} (ha : Nm w L1 a m) (hb : Nm w L2 b n) (h0 : n ≠ 0) (h1 : L1 ≤ 1073741824) (h2 : L2 ≤ 1073741824) : Calls Tryz.prog 54 #[a, b] w fun e w' => ∃ q r, e = .returned (.tuple #[q, r]) ∧ Rs w w' q (m / n) ∧ Rs w w' r (m % n) := by
  obtain ⟨xs, ⟨A, c, rfl, a1, a2, a3, a4⟩, a5, rfl⟩ := ha
  exact divMod_any A c xs b L2 n w a1 hb h0 (by omega) h2
end I
end Go.Proofs.YtgbfpimdnmmfpaaGreatDoor
