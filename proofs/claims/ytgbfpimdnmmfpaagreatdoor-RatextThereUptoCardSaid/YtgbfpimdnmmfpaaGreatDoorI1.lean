/-
  The document's numbers: place, Trim, Small, Cmp, Add, Sub.
-/
import Derived.Test.YtgbfpimdnmmfpaaGreatDoorI0
import Derived.Deep.RegionHeld3
namespace Go.Proofs.YtgbfpimdnmmfpaaGreatDoor
namespace I
open Go Go.RowKit Go.Proofs Pl
set_option linter.unusedVariables false

theorem place_any (A : Option Addr) (c : Nat) (xs : List Nat) (i : Nat) (w : World) (hx : Rd w A xs) (hl : xs.length ≤ maxLen) :
    Calls Tryz.prog 103 #[.slice A xs.length c, .int .i64 (i : Int)] w fun e w' => e = .returned (.int .i64 (atD xs i : Int)) ∧ w = w' := by
  unfold maxLen at hl
  obtain ⟨n, hnn⟩ : ∃ n, n = xs.length := ⟨_, rfl⟩
  rw [← hnn] at hl ⊢
  by_cases hn : i < n
  · obtain ⟨b, o, rfl, hcell⟩ := hx.at_ (j := i) (by omega)
    have hm := hcell i _ (atD_some (by omega))
    have i0 : (0 : Int) ≤ (i : Int) := by omega
    clear hx hcell hnn
    go_enter Tryz.func103, Tryz.ntmps103
    go_wp2
    go_ret
    exact ⟨rfl, rfl⟩
  · have hv : atD xs i = 0 := atD_out (by omega)
    rw [hv]
    clear hv hx hnn
    go_enter Tryz.func103, Tryz.ntmps103
    go_wp2
    go_ret
    exact ⟨rfl, rfl⟩

theorem ow_snoc {w : World} {B : Nat} {v : Value} {ys : List Nat} {x n : Nat} (hy : All TB ys) (hx : x < TB) (hn : n = ys.length) (h : w.ownsRow B 3 1 v (n + 1) (wis ys ++ [.int .i64 (x : Int)])) : Ow w B v (ys ++ [x]) := by
  subst hn
  refine ⟨hy.append (All.cons hx All.nil), ?_⟩
  rw [List.length_append, List.length_singleton, ← wis_app]
  exact h
/-- What an append of one place leaves. -/
theorem grown_own {B b0 : Nat} {w wr w5 : World} {v v5 : Value} {ys : List Nat} {x n : Nat} {o : Obj} (hO : Ow wr B v ys) (hb : Below B w wr) (hB : B ≤ wr.heap.size) (hx : x < TB) (hn : n = ys.length) (h : w5.ownsRow B 3 1 v5 (n + 1) (wis ys ++ [.int .i64 (x : Int)])) (hg : (wr.alloc o).grownBy w5 v.ownBlock) :
    Ow w5 B v5 (ys ++ [x]) ∧ Below B w w5 := by
  refine ⟨ow_snoc hO.1 hx hn h, ?_⟩
  have h2 : Below B w (wr.alloc o) := hb.alloc hB _
  exact h2.grown hg (Nat.le_trans hB (by simp)) (fun j hj => own_ge hO.2 j hj)

/-- append(v, y), one place. -/
theorem app_one {w0 wr : World} {B : Nat} {ops : Array Oper} {rest : List Oper} {o : Oper} {a : Act} {Q : Exit → Act → World → Prop} {v : Value} {ys : List Nat} {y : Nat} (hgd : o.guard = none) (s x : Operand)
    (ho : o.op = .call { callee := .builtin .append, args := #[s, x], argTypes := #[31, 31] }) (hs : a.eval s = v) (hx : a.eval x = .slice (some ⟨wr.heap.size, 0, none⟩) 1 1)
    (hO : Ow wr B v ys) (hb : Below B w0 wr) (hB : B ≤ wr.heap.size) (hy : y < TB) (hl : ys.length ≤ 1099511627776)
    (h : ∀ v' w', Ow w' B v' (ys ++ [y]) → Below B w0 w' → B ≤ w'.heap.size → wpList Tryz.prog ops Q rest (a.put o.dst v') w') : wpList Tryz.prog ops Q (o :: rest) a (wr.alloc (.cells #[.int .i64 (y : Int)] 3)) := by
  obtain ⟨i0, hi, hz0, hz1, hz2⟩ := info_parts word_info
  refine wpList_append_own _ hgd s x 31 ho B 3 i0 (.int .i64 0) 1 8 Tryz.underlying31 hi hz0 hz1 hz2 rfl (by decide) v ys.length (wis ys) hs (hO.2.alloc _) ⟨wr.heap.size, 0, none⟩ 1 1 [.int .i64 (y : Int)] hx rfl (cell_one_new _ _ _)
    (fun u hu => by rw [List.mem_singleton] at hu; subst hu; rfl) (by unfold maxLen; omega) (by omega) (Nat.le_trans hB (below_al _ _).size) ?_
  intro v' w' hown hg _
  obtain ⟨k1, k2⟩ := grown_own (b0 := 0) hO hb hB hy rfl hown hg
  exact h v' w' k1 k2 (Nat.le_trans (Nat.le_trans hB (below_al _ _).size) hg.size)
theorem canon_snoc {ys : List Nat} {x : Nat} (hx : x ≠ 0) : Canon (ys ++ [x]) := by
  unfold Canon
  rw [strip_snoc, if_neg hx]
theorem pow5 : 9223372036854775808 ≤ TB ^ 5 := by rw [TB_eq]; decide
theorem short {n m l v : Nat} (hn : n < 9223372036854775808) (hm : 0 < m) (h : v + TB ^ l * m = n) : l ≤ 4 := by
  rcases Nat.lt_or_ge l 5 with hlt | hge
  · omega
  · have h1 : TB ^ 5 ≤ TB ^ l := Nat.pow_le_pow_right TB_pos hge
    have h2 : TB ^ l * 1 ≤ TB ^ l * m := Nat.mul_le_mul_left _ hm
    have := pow5
    omega
def SmallRel (n B : Nat) (w wr : World) (m : Nat) (v : Value) : Prop :=
  ∃ ys : List Nat, Ow wr B v ys ∧ Below B w wr ∧ B ≤ wr.heap.size ∧ val TB ys + TB ^ ys.length * m = n ∧ (m = 0 → Canon ys)

set_option maxRecDepth 100000 in
theorem small_any (n : Nat) (w : World) (hn : n < 9223372036854775808) :
    Calls Tryz.prog 71 #[.int .i64 (n : Int)] w fun e w' => ∃ v, e = .returned v ∧ Rs w w' v n := by
  have HN := Lib.hid hn
  have hnI : (n : Int) ≤ 9223372036854775807 := by omega
  clear hn
  go_enter Tryz.func71, Tryz.ntmps71
  go_wp2_with fail
  go_loopw [0, 3] (fun i v wr => ∃ m : Nat, i = .int .i64 (m : Int) ∧ m ≤ n ∧ Hid (SmallRel n w.heap.size w wr m v)) (fun i _ _ => (intOf i).toNat)
  case atStart => exact ⟨n, rfl, Nat.le_refl _, [], made_own w 0 0 (by omega) (by decide), below_al _ _, (below_al w _).size, by simp [val], fun _ => rfl⟩
  case round =>
    obtain ⟨m, rfl, hmn, hS⟩ := hrel
    by_cases h0 : m = 0
    · subst h0
      go_wp2_with fail
      go_ret
      obtain ⟨ys, hO, hb, hB, hv, hc⟩ := hS.out
      rw [Nat.mul_zero, Nat.add_zero] at hv
      refine ⟨_, rfl, ?_, hb⟩
      rw [← hv, dg_val TB_one hO.1 (hc rfl)]
      exact hO
    · obtain ⟨ys, hO, hb, hB, hv, hc⟩ := hS.out
      have hsh := short HN.out (by omega) hv
      have hpos : (0 : Int) < (m : Int) := by omega
      have hmI : (m : Int) ≤ 9223372036854775807 := by omega
      obtain ⟨d, hd⟩ : ∃ d, d = m % TB := ⟨_, rfl⟩
      obtain ⟨q, hq⟩ : ∃ q, q = m / TB := ⟨_, rfl⟩
      have hdI : (m : Int) % 10000 = (d : Int) := by rw [hd, TB_eq]; omega
      have hqI : (m : Int) / 10000 = (q : Int) := by rw [hq, TB_eq]; omega
      have hdT : d < TB := by rw [hd]; exact Nat.mod_lt _ TB_pos
      have hqm : q < m := by rw [hq]; exact Nat.div_lt_self (by omega) TB_one
      have K := Lib.hid (And.intro hO (And.intro hb (And.intro hB (And.intro hv (And.intro hsh (And.intro hd (And.intro hq (And.intro hdT h0))))))))
      clear hO hb hB hv hc hsh hd hq hdT hS h0
      go_wp2_with (at_builtin; refine app_one rfl _ _ rfl rfl rfl K.out.1 K.out.2.1 K.out.2.2.1 K.out.2.2.2.2.2.2.2.1 (Nat.le_trans K.out.2.2.2.2.1 (by decide)) ?_; intro v5 w5 k1 k2 k3)
      have J := Lib.hid (And.intro k1 (And.intro k2 k3))
      clear k1 k2 k3
      go_wp2_with fail
      go_roundw
      case rel =>
        refine ⟨q, rfl, by omega, ys ++ [d], J.out.1, J.out.2.1, J.out.2.2, ?_, fun hq0 => canon_snoc ?_⟩
        · rw [val_snoc, List.length_append, List.length_singleton, Nat.pow_succ, ← K.out.2.2.2.1, K.out.2.2.2.2.2.1, K.out.2.2.2.2.2.2.1]
          have e := Nat.div_add_mod m TB
          conv => rhs; rw [← e]
          rw [Nat.mul_add, Nat.mul_assoc]
          omega
        · have e := Nat.div_add_mod m TB
          rw [← K.out.2.2.2.2.2.1, ← K.out.2.2.2.2.2.2.1, hq0] at e
          have := K.out.2.2.2.2.2.2.2.2
          rw [Nat.mul_zero] at e
          omega
      case measure => simp [intOf]; omega

theorem take_snoc {xs : List Nat} {k : Nat} (h : k < xs.length) : xs.take (k + 1) = xs.take k ++ [atD xs k] := by
  rw [List.take_succ_eq_append_getElem h, atD_get h]
set_option maxRecDepth 100000 in
set_option maxHeartbeats 400000 in
theorem trim_any (A : Option Addr) (c : Nat) (xs : List Nat) (w : World) (hx : Rd w A xs) (hlx : xs.length ≤ c) (hcx : c ≤ maxLen) (hlen : xs.length ≤ 1099511627776) :
    Calls Tryz.prog 89 #[.slice A xs.length c] w fun e w' => ∃ v, e = .returned v ∧ Rs w w' v (val TB xs) := by
  obtain ⟨n, hn⟩ : ∃ n, n = xs.length := ⟨_, rfl⟩
  rw [← hn] at hlx hlen ⊢
  have HX := Lib.hid hx
  have HN := Lib.hid hn
  clear hx hn hcx
  go_enter Tryz.func89, Tryz.ntmps89
  go_wp2_with fail
  go_loop [3] (fun i => ∃ k : Nat, k ≤ n ∧ i = .int .i64 (k : Int) ∧ Hid (strip xs = strip (xs.take k))) (fun i => (intOf i).toNat)
  case atStart => exact ⟨n, Nat.le_refl _, rfl, by show _ = _; rw [HN.out, List.take_length]⟩
  case round =>
    obtain ⟨k, hk, rfl, hs⟩ := hrel
    by_cases hgo : 0 < k ∧ atD xs (k - 1) = 0
    · obtain ⟨hk0, hz⟩ := hgo
      obtain ⟨m, rfl⟩ : ∃ m, k = m + 1 := ⟨k - 1, by omega⟩
      rw [Nat.add_sub_cancel] at hz
      obtain ⟨b, o, rfl, hcell⟩ := HX.out.at_ (j := m) (by rw [← HN.out]; omega)
      have hm := hcell m _ (atD_some (by rw [← HN.out]; omega))
      rw [hz] at hm
      have hss : strip xs = strip (xs.take m) := by
        have h1 := hs.out
        rw [take_snoc (by rw [← HN.out]; omega), hz, strip_snoc, if_pos rfl] at h1
        exact h1
      have HS := Lib.hid hss
      have hkm : (((m + 1 : Nat) : Int)) - 1 = (m : Int) := by omega
      have hpos : (0 : Int) < ((m + 1 : Nat) : Int) := by omega
      clear hss hcell hz hs hk0
      go_wp2_with fail
      go_round
      case rel => exact ⟨m, by omega, by go_num, HS⟩
      case measure => simp [intOf]
    · have hst : strip xs = xs.take k := by
        rcases Nat.eq_zero_or_pos k with rfl | hp
        · rw [hs.out]; rfl
        · obtain ⟨m, rfl⟩ : ∃ m, k = m + 1 := ⟨k - 1, by omega⟩
          rw [Nat.add_sub_cancel] at hgo
          rw [hs.out, take_snoc (by rw [← HN.out]; omega), strip_snoc, if_neg (fun h => hgo ⟨hp, h⟩)]
      have HST := Lib.hid hst
      clear hst
      have hkn : k ≤ xs.length := by rw [← HN.out]; exact hk
      have HKN := Lib.hid hkn
      clear hkn
      have hwo : (k = 0 ∧ ¬ (0 : Int) < (k : Int)) ∨ ∃ m : Nat, (k : Int) - 1 = (m : Int) ∧ (0 : Int) < (k : Int) ∧ m < k ∧ ∃ b o, A = some ⟨b, o, none⟩ ∧ w.cell? ⟨b, o + m, none⟩ = some (.int .i64 (atD xs m : Int)) ∧ ((atD xs m : Int) == 0) = false := by
        rcases Nat.eq_zero_or_pos k with h | hp
        · exact .inl ⟨h, by omega⟩
        · refine .inr ⟨k - 1, by omega, by omega, by omega, ?_⟩
          obtain ⟨b, o, hA, hcell⟩ := HX.out.at_ (j := k - 1) (by rw [← HN.out]; omega)
          exact ⟨b, o, hA, hcell _ _ (atD_some (by rw [← HN.out]; omega)), by simp; exact fun h => hgo ⟨hp, h⟩⟩
      clear hgo hs
      rcases hwo with ⟨-, hz⟩ | ⟨m, hkm, hpos, hmk, b, o, rfl, hm, hne⟩
      all_goals
        go_wp2_with fail
        go_loopw [4, 5] (fun v i wr => ∃ j : Nat, i = .int .i64 (j : Int) ∧ j ≤ k ∧ Hid (Ow wr w.heap.size v (xs.take j) ∧ Below w.heap.size w wr ∧ w.heap.size ≤ wr.heap.size)) (fun _ i _ => k - (intOf i).toNat)
        case atStart => exact ⟨0, rfl, by omega, made_own w 0 0 (by omega) (by decide), below_al _ _, (below_al w _).size⟩
        case round =>
          obtain ⟨j, rfl, hj, hO⟩ := hrel
          by_cases hlt : j < k
          · try (exfalso; omega)
            all_goals
              obtain ⟨b2, o2, hA2, hcell⟩ := (HX.out.keep hO.out.2.1).at_ (j := j) (Nat.lt_of_lt_of_le hlt HKN.out)
              have hm2 := hcell j _ (atD_some (Nat.lt_of_lt_of_le hlt HKN.out))
              have htk : (xs.take j).length = j := by rw [List.length_take]; have := HKN.out; omega
              have HTK := Lib.hid htk
              have hjn : j < n := by omega
              first
                | (injection hA2 with hA2; injection hA2 with hA3 hA4; subst hA3; subst hA4)
                | subst hA2
              clear hcell htk
              have htl : (xs.take j).length ≤ 1099511627776 := by rw [HTK.out]; omega
              have HTL := Lib.hid htl
              clear htl
              go_wp2_with (at_builtin; refine app_one rfl _ _ rfl rfl rfl hO.out.1 hO.out.2.1 hO.out.2.2 (atD_lt HX.out.1 j) HTL.out ?_; intro v5 w5 k1 k2 k3)
              rw [← take_snoc (Nat.lt_of_lt_of_le hlt HKN.out)] at k1
              have J := Lib.hid (And.intro k1 (And.intro k2 k3))
              clear k1 k2 k3
              go_wp2_with fail
              go_roundw
              case rel => exact ⟨j + 1, by go_num, by omega, J.out⟩
              case measure => simp [intOf]; omega
          · obtain rfl : j = k := by omega
            go_wp2_with fail
            go_ret
            refine ⟨_, rfl, ?_, hO.out.2.1⟩
            have h1 := hO.out.1
            rw [← HST.out, strip_eq_dg TB_one HX.out.1] at h1
            exact h1
theorem trim_nm {w : World} {L : Nat} {a : Value} {m : Nat} (ha : Nm w L a m) (hL : L ≤ 1099511627776) : Calls Tryz.prog 89 #[a] w fun e w' => ∃ v, e = .returned v ∧ Rs w w' v m := by
  obtain ⟨xs, ⟨A, c, rfl, a1, a2, a3, a4⟩, a5, rfl⟩ := ha
  exact trim_any A c xs w a1 a2 a3 (by omega)
end I
end Go.Proofs.YtgbfpimdnmmfpaaGreatDoor
