/-
  The document's numbers: a number's words.
-/
import Derived.Test.YtgbfpimdnmmfpaaGreatDoorI9
namespace Go.Proofs.YtgbfpimdnmmfpaaGreatDoor
open Go Go.RowKit Go.Proofs Pl
set_option linter.unusedVariables false

/-- append(v, y), one word. -/
theorem app_word {w0 wr : World} {B : Nat} {ops : Array Oper} {rest : List Oper} {o : Oper} {a : Act} {Q : Exit → Act → World → Prop} {v : Value} {ys : List Nat} {y : Nat} (hgd : o.guard = none) (s x : Operand)
    (ho : o.op = .call { callee := .builtin .append, args := #[s, x], argTypes := #[22, 22] }) (hs : a.eval s = v) (hx : a.eval x = .slice (some ⟨wr.heap.size, 0, none⟩) 1 1)
    (hO : Ow wr B v ys) (hb : Below B w0 wr) (hB : B ≤ wr.heap.size) (hy : y < WB) (hl : ys.length ≤ 1099511627776)
    (h : ∀ v' w', Ow w' B v' (ys ++ [y]) → Below B w0 w' → wr.grownBy w' v.ownBlock → wpList Tryz.prog ops Q rest (a.put o.dst v') w') : wpList Tryz.prog ops Q (o :: rest) a (wr.alloc (.cells #[.int .u64 (y : Int)] 84)) := by
  obtain ⟨i0, hi, hz0, hz1, hz2⟩ := info_parts word_info
  refine wpList_append_own _ hgd s x 22 ho B 84 i0 (.int .u64 0) 1 8 Tryz.underlying22 hi hz0 hz1 hz2 rfl (by decide) v ys.length (wis ys) hs (hO.2.alloc _) ⟨wr.heap.size, 0, none⟩ 1 1 [.int .u64 (y : Int)] hx rfl (cell_one_new _ _ _)
    (fun u hu => by rw [List.mem_singleton] at hu; subst hu; rfl) (by unfold maxLen; omega) (by omega) (Nat.le_trans hB (below_al _ _).size) ?_
  intro v' w' hown hg _
  have h2 : Below B w0 (wr.alloc (.cells #[.int .u64 (y : Int)] 84)) := hb.alloc hB _
  refine h v' w' (ow_snoc hO.1 hy rfl hown) (h2.grown hg (Nat.le_trans hB (below_al _ _).size) (fun j hj => own_ge hO.2 j hj)) ?_
  exact ⟨hg.os, hg.tape, hg.output, Nat.le_trans (below_al _ _).size hg.size, fun k hk hne => (hg.block k (Nat.lt_of_lt_of_le hk (below_al _ _).size) hne).trans (Below.heap_alloc wr _ k hk)⟩
/-- Places of the document's numbers, behind a write to words. -/
theorem I.Ow.other {w w' : World} {B B' : Nat} {v u : Value} {xs ys : List Nat} (h : I.Ow w B v xs) (ho : _root_.Go.Proofs.YtgbfpimdnmmfpaaGreatDoor.Ow w B' u ys) (hg : w.grownBy w' u.ownBlock) : I.Ow w' B v xs :=
  ⟨h.1, own_keepT h.2 (own_keepT_of ho.2 hg (by decide))⟩

theorem to_nums {hi lo : Nat} (h1 : hi < I.HB) (h2 : lo < I.HB) : ∃ hh wd : Nat, wd = hi * I.HB + lo ∧ wd < WB ∧ IntKind.u64.wrap (hi : Int) = (hi : Int) ∧ IntKind.u64.wrap (lo : Int) = (lo : Int) ∧ (hi : Int) * 4294967296 = (hh : Int) ∧ IntKind.u64.wrap (hh : Int) = (hh : Int) ∧ (hh : Int) + (lo : Int) = (wd : Int) ∧ IntKind.u64.wrap (wd : Int) = (wd : Int) := by
  rw [I.HB_eq] at h1 h2 ⊢
  refine ⟨hi * 4294967296, _, rfl, by rw [WB_eq]; omega, wrap_u64 _ (by rw [WB_eq]; omega), wrap_u64 _ (by rw [WB_eq]; omega), by omega, wrap_u64 _ (by rw [WB_eq]; omega), by omega, wrap_u64 _ (by rw [WB_eq]; omega)⟩
def ToRel (n B0 : Nat) (w wr : World) (m : Nat) (xv v : Value) : Prop :=
  ∃ ys : List Nat, I.Ow wr B0 xv (dg I.TB m) ∧ Ow wr B0 v ys ∧ Below B0 w wr ∧ val WB ys + WB ^ ys.length * m = n ∧ (m = 0 → Canon ys)
theorem canon_snoc' {ys : List Nat} {x : Nat} (hx : x ≠ 0) : Canon (ys ++ [x]) := by
  unfold Canon
  rw [strip_snoc, if_neg hx]
theorem to_short {n m l v K : Nat} (hn : n < WB ^ K) (hm : 0 < m) (h : v + WB ^ l * m = n) : l < K := by
  rcases Nat.lt_or_ge l K with hlt | hge
  · exact hlt
  · have h1 : WB ^ K ≤ WB ^ l := Nat.pow_le_pow_right WB_pos hge
    have h2 : WB ^ l * 1 ≤ WB ^ l * m := Nat.mul_le_mul_left _ hm
    omega

set_option maxRecDepth 100000 in
set_option maxHeartbeats 2000000 in
theorem to_any {L n K : Nat} {a : Value} (w : World) (ha : I.Nm w L a n) (hL : L ≤ 1073741824) (hn : n < WB ^ K) (hK : K ≤ 1048576) :
    Calls Tryz.prog 55 #[a] w fun e w' => ∃ v, e = .returned v ∧ Rs w w' v n := by
  have HA := Lib.hid (And.intro ha (And.intro hn (I.words_lt hn)))
  clear ha hn
  go_enter Tryz.func55, Tryz.ntmps55
  go_wp2_with fail
  have hw1 : Below w.heap.size w (w.alloc (.cells #[] 84)) := below_al _ _
  have he : Ow (w.alloc (.cells #[] 84)) w.heap.size (.slice (some ⟨w.heap.size, 0, none⟩) 0 0) [] := made_own w 0 0 (by omega) (by decide)
  have hsm := I.small_any I.HB (w.alloc (.cells #[] 84)) (by rw [I.HB_eq]; decide)
  rw [I.HB_eq] at hsm
  refine hsm.mono ?_; rintro e w1 ⟨vh, rfl, h1⟩
  rw [← I.HB_eq] at h1
  have H1 := Lib.hid (And.intro (he.keep h1.2) (And.intro (below_trans hw1 h1.2) (h1.1.mono hw1.size)))
  clear hw1 he hsm h1
  go_wp2_with fail
  refine (I.trim_nm (HA.out.1.keep H1.out.2.1) (by omega)).mono ?_; rintro e w2 ⟨v2, rfl, h2⟩
  have H2 := Lib.hid (And.intro h2.1 (And.intro (H1.out.2.2.keep h2.2) (And.intro (H1.out.1.keep h2.2) (below_trans H1.out.2.1 h2.2))))
  clear h2
  go_wp2_with fail
  go_loopg [3, 5] n (fun m v x wr => ∃ (lx dx : Nat) (Bx : Option Addr), x = .slice Bx lx dx ∧ m ≤ n ∧ Hid ((dg I.TB m).length = lx ∧ ToRel n w.heap.size w wr m (.slice Bx lx dx) v ∧ I.Ow wr w.heap.size vh (dg I.TB I.HB)))
  case atStart =>
    obtain ⟨A2, c2, rfl, h3, h4⟩ := H2.out.1.slice
    exact ⟨_, c2, A2, rfl, Nat.le_refl _, rfl, ⟨[], H2.out.1.mono H1.out.2.1.size, H2.out.2.2.1, H2.out.2.2.2, by simp [val], fun _ => rfl⟩, H2.out.2.1⟩
  case round =>
    obtain ⟨lx, dx, Bx, rfl, hmn, hS⟩ := hrel
    obtain ⟨hlx, ⟨ys, hx, hy, hb, hv, hc⟩, hb2⟩ := hS.out
    by_cases h0 : lx = 0
    · subst h0
      have hk : gk = 0 := (dg_eq_nil I.TB_one gk).1 (List.eq_nil_of_length_eq_zero hlx)
      rw [hk, Nat.mul_zero, Nat.add_zero] at hv
      have hfin : dg WB n = ys := by rw [← hv]; exact dg_val WB_one hy.1 (hc hk)
      have K2 := Lib.hid (And.intro hfin (And.intro hy hb))
      clear hlx hx hy hb hv hc hb2 hS hk hfin
      go_wp2_with fail
      go_ret
      exact ⟨_, rfl, by rw [K2.out.1]; exact K2.out.2.1, K2.out.2.2⟩
    · have hk0 : gk ≠ 0 := by
        rintro rfl
        rw [dg_zero] at hlx
        exact h0 hlx.symm
      have hsh := to_short HA.out.2.1 (Nat.pos_of_ne_zero hk0) hv
      have hgT : gk < I.TB ^ (5 * K) := Nat.lt_of_le_of_lt hmn HA.out.2.2
      have hpos : (0 : Int) < (lx : Int) := by omega
      have hHB0 : I.HB ≠ 0 := by rw [I.HB_eq]; decide
      have hHBp : 0 < I.HB := Nat.pos_of_ne_zero hHB0
      obtain ⟨q, hq⟩ : ∃ q, q = gk / I.HB := ⟨_, rfl⟩
      obtain ⟨lo, hlo⟩ : ∃ lo, lo = gk % I.HB := ⟨_, rfl⟩
      obtain ⟨p, hp⟩ : ∃ p, p = q / I.HB := ⟨_, rfl⟩
      obtain ⟨hi, hhi⟩ : ∃ hi, hi = q % I.HB := ⟨_, rfl⟩
      have hlo2 : lo < I.HB := by rw [hlo]; exact Nat.mod_lt _ hHBp
      have hhi2 : hi < I.HB := by rw [hhi]; exact Nat.mod_lt _ hHBp
      obtain ⟨hh, wd, ewd, w1', j1, j2, j3, j4, j5, j6⟩ := to_nums hhi2 hlo2
      have hsplit : p * WB + wd = gk := by
        have e1 := Nat.div_add_mod gk I.HB
        have e2 := Nat.div_add_mod q I.HB
        rw [← hq, ← hlo] at e1
        rw [← hp, ← hhi] at e2
        rw [ewd, ← e1, ← e2, Nat.mul_add, ← Nat.mul_assoc, I.HB_sq, Nat.mul_comm WB p, Nat.mul_comm I.HB hi]; omega
      have hd1 := I.divMod_nm (show I.Nm wr (5 * K) _ gk from ⟨_, hx.nl, dg_length_le I.TB_one hgT, val_dg I.TB_one _⟩) (show I.Nm wr 3 vh I.HB from ⟨_, hb2.nl, dg_length_le I.TB_one I.HB_lt, val_dg I.TB_one _⟩) hHB0 (by omega) (by decide)
      rw [← hq, ← hlo] at hd1
      have HD1 := Lib.hid hd1
      have X := Lib.hid (And.intro hy (And.intro hb (And.intro hv (And.intro hb2 (And.intro hsh (And.intro hgT (And.intro hHB0 (And.intro (And.intro hp hhi) (And.intro hlo2 (And.intro hhi2 (And.intro w1' (And.intro hsplit (And.intro hk0 (show q < I.TB ^ (5 * K) by rw [hq]; exact Nat.lt_of_le_of_lt (Nat.div_le_self _ _) hgT))))))))))))))
      clear hlx hx hy hb hv hc hb2 hS hk0 hsh hgT hHB0 hHBp hq hlo hp hhi hlo2 hhi2 ewd w1' hsplit hd1
      go_wp2_with fail
      refine HD1.out.mono ?_; rintro e w3 ⟨vq, vl, rfl, h3, h4⟩
      have H3 := Lib.hid (And.intro h3 (h4.nm (L := 3) (Nat.lt_trans X.out.2.2.2.2.2.2.2.2.1 I.HB_lt)))
      clear h3 h4
      have hd2 := I.divMod_nm (H3.out.1.nm X.out.2.2.2.2.2.2.2.2.2.2.2.2.2) (show I.Nm w3 3 vh I.HB from ⟨_, (X.out.2.2.2.1.keep H3.out.1.2).nl, dg_length_le I.TB_one I.HB_lt, val_dg I.TB_one _⟩) X.out.2.2.2.2.2.2.1 (by omega) (by decide)
      rw [← X.out.2.2.2.2.2.2.2.1.1, ← X.out.2.2.2.2.2.2.2.1.2] at hd2
      have HD2 := Lib.hid hd2
      clear hd2
      go_wp2_with fail
      refine HD2.out.mono ?_; rintro e w4 ⟨vp, vi, rfl, h5, h6⟩
      obtain ⟨A5, c5, rfl, h7, h8⟩ := h5.1.slice
      have H4 := Lib.hid (And.intro h5 (And.intro (h6.nm (L := 3) (Nat.lt_trans X.out.2.2.2.2.2.2.2.2.2.1 I.HB_lt)) (H3.out.2.keep h5.2)))
      clear h5 h6 h7 h8
      go_wp2_with fail
      have hhib : hi < 4611686018427387904 := by have := X.out.2.2.2.2.2.2.2.2.2.1; rw [I.HB_eq] at this; omega
      refine (I.value_nm H4.out.2.1 (by decide) hhib).mono ?_; rintro e w' ⟨rfl, rfl⟩
      go_wp2_with fail
      have hlob : lo < 4611686018427387904 := by have := X.out.2.2.2.2.2.2.2.2.1; rw [I.HB_eq] at this; omega
      refine (I.value_nm H4.out.2.2 (by decide) hlob).mono ?_; rintro e w' ⟨rfl, rfl⟩
      have hby : Below w.heap.size w w4 := below_trans (below_trans X.out.2.1 H3.out.1.2) H4.out.1.2
      have Y := Lib.hid (And.intro ((X.out.1.keep H3.out.1.2).keep H4.out.1.2) (And.intro hby hby.size))
      clear hby hhib hlob
      go_wp2_with (at_builtin; refine app_word rfl _ _ rfl rfl rfl Y.out.1 Y.out.2.1 Y.out.2.2 X.out.2.2.2.2.2.2.2.2.2.2.1 (Nat.le_trans (Nat.le_of_lt X.out.2.2.2.2.1) (Nat.le_trans hK (by decide))) ?_; intro v5 w5 k1 k2 k3)
      have hx5 := ((H4.out.1.1.mono (below_trans X.out.2.1 H3.out.1.2).size).other Y.out.1 k3)
      have hh5 := (((X.out.2.2.2.1.keep H3.out.1.2).keep H4.out.1.2).other Y.out.1 k3)
      obtain ⟨l5, hl5⟩ : ∃ l5, l5 = (dg I.TB p).length := ⟨_, rfl⟩
      rw [← hl5] at hx5 ⊢
      have hval : val WB (ys ++ [wd]) + WB ^ (ys ++ [wd]).length * p = n := by
        rw [val_snoc, List.length_append, List.length_singleton, Nat.pow_succ, Nat.mul_assoc, Nat.add_assoc, ← Nat.mul_add, ← X.out.2.2.1, ← X.out.2.2.2.2.2.2.2.2.2.2.2.1]
        rw [Nat.mul_comm WB p, Nat.add_comm wd]
      have hplt : p < gk := by
        have h1 := X.out.2.2.2.2.2.2.2.2.2.2.2.1
        have h2 := X.out.2.2.2.2.2.2.2.2.2.2.2.2.1
        rcases Nat.eq_zero_or_pos p with h3 | h3
        · omega
        · have h4 : p * 2 ≤ p * WB := Nat.mul_le_mul_left _ WB_one
          omega
      have hcan : p = 0 → Canon (ys ++ [wd]) := fun h3 => canon_snoc' (by
        have h1 := X.out.2.2.2.2.2.2.2.2.2.2.2.1
        have h2 := X.out.2.2.2.2.2.2.2.2.2.2.2.2.1
        rw [h3, Nat.zero_mul] at h1
        omega)
      have Z := Lib.hid (And.intro hl5.symm (And.intro (show ToRel n w.heap.size w w5 p (.slice A5 l5 c5) v5 from ⟨_, hx5, k1, k2, hval, hcan⟩) (And.intro hh5 hplt)))
      clear hx5 hh5 hl5 hval hplt hcan k1 k2 k3
      go_wp2_with fail
      go_roundg p
      case measure => exact Z.out.2.2.2
      case rel => exact ⟨l5, c5, A5, rfl, by have := Z.out.2.2.2; omega, Z.out.1, Z.out.2.1, Z.out.2.2.1⟩
theorem to_rs {w w0 : World} {v : Value} {n K : Nat} (h : I.Rs w0 w v n) (hn : n < WB ^ K) (hK : K ≤ 1048576) : Calls Tryz.prog 55 #[v] w fun e w' => ∃ v, e = .returned v ∧ Rs w w' v n :=
  to_any w (h.nm (I.words_lt hn)) (by omega) hn hK
end Go.Proofs.YtgbfpimdnmmfpaaGreatDoor
