/-
  The document's numbers: Cmp, Add, Sub.
-/
import Derived.Test.YtgbfpimdnmmfpaaGreatDoorI1
namespace Go.Proofs.YtgbfpimdnmmfpaaGreatDoor
namespace I
open Go Go.RowKit Go.Proofs Pl
set_option linter.unusedVariables false

def padTo (n : Nat) (xs : List Nat) : List Nat := xs ++ List.replicate (n - xs.length) 0
theorem padTo_len {n : Nat} {xs : List Nat} (h : xs.length ≤ n) : (padTo n xs).length = n := by simp [padTo]; omega
theorem padTo_val (B n : Nat) (xs : List Nat) : val B (padTo n xs) = val B xs := by rw [padTo, val_append, val_replicate, Nat.mul_zero, Nat.add_zero]
theorem padTo_all {B n : Nat} {xs : List Nat} (hB : 0 < B) (h : All B xs) : All B (padTo n xs) := h.append (All.replicate hB _)
theorem padTo_at (n : Nat) (xs : List Nat) (j : Nat) : atD (padTo n xs) j = atD xs j := by
  unfold padTo atD
  rw [List.getD_eq_getElem?_getD, List.getD_eq_getElem?_getD]
  rcases Nat.lt_or_ge j xs.length with h | h
  · rw [List.getElem?_append_left h]
  · rw [List.getElem?_append_right h, List.getElem?_eq_none h, List.getElem?_replicate]
    split <;> rfl
theorem drop_ext {n k : Nat} {P Q : List Nat} (hP : P.length = n) (hQ : Q.length = n) (h : ∀ j, k ≤ j → atD P j = atD Q j) : P.drop k = Q.drop k := by
  apply List.ext_getElem
  · simp [hP, hQ]
  · intro i h1 h2
    rw [List.getElem_drop, List.getElem_drop]
    have := h (k + i) (by omega)
    rw [atD_get (by simp at h1; omega), atD_get (by simp at h2; omega)] at this
    exact this
theorem lt_by_place {B k : Nat} {xs ys : List Nat} (hB : 0 < B) (hx : All B xs) (hy : All B ys) (h : ∀ j, k + 1 ≤ j → atD xs j = atD ys j) (hlt : atD xs k < atD ys k) : val B xs < val B ys := by
  obtain ⟨n, hn⟩ : ∃ n, n = xs.length + ys.length := ⟨_, rfl⟩
  have hk : k < n := by
    rcases Nat.lt_or_ge k n with h' | h'
    · exact h'
    · rw [atD_out (xs := ys) (by omega)] at hlt; omega
  have l1 := padTo_len (n := n) (xs := xs) (by omega)
  have l2 := padTo_len (n := n) (xs := ys) (by omega)
  have := val_lt_of (B := B) (P := padTo n xs) (Q := padTo n ys) (i := k) (padTo_all hB hx) (by omega) (by omega) (drop_ext l1 l2 fun j hj => by rw [padTo_at, padTo_at]; exact h j hj)
    (by have e1 := padTo_at n xs k; have e2 := padTo_at n ys k; rw [atD_get (by omega)] at e1 e2; omega)
  rwa [padTo_val, padTo_val] at this
theorem eq_by_place {B : Nat} {xs ys : List Nat} (h : ∀ j, atD xs j = atD ys j) : val B xs = val B ys := by
  obtain ⟨n, hn⟩ : ∃ n, n = xs.length + ys.length := ⟨_, rfl⟩
  have := drop_ext (k := 0) (padTo_len (n := n) (xs := xs) (by omega)) (padTo_len (n := n) (xs := ys) (by omega)) fun j _ => by rw [padTo_at, padTo_at]; exact h j
  rw [List.drop_zero, List.drop_zero] at this
  rw [← padTo_val B n xs, this, padTo_val]

set_option maxRecDepth 100000 in
set_option maxHeartbeats 400000 in
theorem cmp_any (A B : Option Addr) (c d : Nat) (xs ys : List Nat) (w : World) (hx : Rd w A xs) (hy : Rd w B ys) (hlx : xs.length ≤ 1099511627776) (hly : ys.length ≤ 1099511627776) :
    Calls Tryz.prog 68 #[.slice A xs.length c, .slice B ys.length d] w fun e w' => e = .returned (.int .i64 (cmpN (val TB xs) (val TB ys))) ∧ w = w' := by
  have hp1 := fun i : Nat => place_any A c xs i w hx (by unfold maxLen; omega)
  have hp2 := fun i : Nat => place_any B d ys i w hy (by unfold maxLen; omega)
  obtain ⟨la, hla⟩ : ∃ la, la = xs.length := ⟨_, rfl⟩
  obtain ⟨lb, hlb⟩ : ∃ lb, lb = ys.length := ⟨_, rfl⟩
  rw [← hla] at hp1 hlx ⊢
  rw [← hlb] at hp2 hly ⊢
  have HX := Lib.hid (And.intro hx.1 hy.1)
  have HL := Lib.hid (And.intro hla hlb)
  have HP1 := Lib.hid hp1
  have HP2 := Lib.hid hp2
  clear hx hy hla hlb hp1 hp2
  by_cases hlt : la < lb
  all_goals
    go_enter Tryz.func68, Tryz.ntmps68
    go_wp2_with fail
    go_loop [6] (fun i => ∃ k : Nat, i = .int .i64 ((k : Int) - 1) ∧ k ≤ la + lb ∧ Hid (∀ j, k ≤ j → atD xs j = atD ys j)) (fun i => (intOf i + 1).toNat)
    case atStart =>
      first
        | exact ⟨lb, rfl, by omega, fun j hj => by rw [atD_out (by have := HL.out.1; omega), atD_out (by have := HL.out.2; omega)]⟩
        | exact ⟨la, rfl, by omega, fun j hj => by rw [atD_out (by have := HL.out.1; omega), atD_out (by have := HL.out.2; omega)]⟩
    case round =>
      obtain ⟨k, rfl, hk, hd⟩ := hrel
      cases k with
      | zero =>
        have hfin : Hid (cmpN (val TB xs) (val TB ys) = 0) := by
          show _ = _
          rw [eq_by_place fun j => hd.out j (by omega)]; simp [cmpN]
        clear hlt
        go_wp2_with fail
        go_ret
        exact ⟨by rw [hfin.out]; rfl, rfl⟩
      | succ m =>
        have hkm : (((m + 1 : Nat) : Int) - 1) = (m : Int) := by omega
        have hm40 : m < 2199023255552 := by omega
        rw [hkm]
        clear hkm hlt
        obtain ⟨x, hx⟩ : ∃ x, x = atD xs m := ⟨_, rfl⟩
        obtain ⟨y, hy⟩ : ∃ y, y = atD ys m := ⟨_, rfl⟩
        have HPX := Lib.hid (HP1.out m)
        have HPY := Lib.hid (HP2.out m)
        rw [← hx] at HPX
        rw [← hy] at HPY
        rcases Nat.lt_trichotomy x y with h | h | h
        · have hv := lt_by_place TB_pos HX.out.1 HX.out.2 (k := m) (fun j hj => hd.out j hj) (by omega)
          have hfin : Hid (cmpN (val TB xs) (val TB ys) = -1) := by show _ = _; simp [cmpN, hv]
          have h' : (x : Int) < (y : Int) := by omega
          clear hv h hx hy
          go_wp2_with fail
          refine HPX.out.mono ?_; rintro e w' ⟨rfl, rfl⟩
          go_wp2_with fail
          refine HPY.out.mono ?_; rintro e w' ⟨rfl, rfl⟩
          go_wp2_with fail
          go_ret
          exact ⟨by rw [hfin.out]; rfl, rfl⟩
        · have hd' : Hid (∀ j, m ≤ j → atD xs j = atD ys j) := fun j hj => by
            rcases Nat.eq_or_lt_of_le hj with rfl | h'
            · omega
            · exact hd.out j h'
          have h1 : ¬ (x : Int) < (y : Int) := by omega
          have h2 : ¬ (y : Int) < (x : Int) := by omega
          clear h hx hy
          go_wp2_with fail
          refine HPX.out.mono ?_; rintro e w' ⟨rfl, rfl⟩
          go_wp2_with fail
          refine HPY.out.mono ?_; rintro e w' ⟨rfl, rfl⟩
          go_wp2_with fail
          go_round
          case rel => exact ⟨m, rfl, by omega, hd'⟩
          case measure => simp [intOf]
        · have hv := lt_by_place TB_pos HX.out.2 HX.out.1 (k := m) (fun j hj => (hd.out j hj).symm) (by omega)
          have hfin : Hid (cmpN (val TB xs) (val TB ys) = 1) := by show _ = _; simp [cmpN, hv]; omega
          have h1 : ¬ (x : Int) < (y : Int) := by omega
          have h' : (y : Int) < (x : Int) := by omega
          clear hv h hx hy
          go_wp2_with fail
          refine HPX.out.mono ?_; rintro e w' ⟨rfl, rfl⟩
          go_wp2_with fail
          refine HPY.out.mono ?_; rintro e w' ⟨rfl, rfl⟩
          go_wp2_with fail
          go_ret
          exact ⟨by rw [hfin.out]; rfl, rfl⟩
theorem cmp_nm {w : World} {L1 L2 m n : Nat} {a b : Value} (ha : Nm w L1 a m) (hb : Nm w L2 b n) (h1 : L1 ≤ 1099511627776) (h2 : L2 ≤ 1099511627776) : Calls Tryz.prog 68 #[a, b] w fun e w' => e = .returned (.int .i64 (cmpN m n)) ∧ w = w' := by
  obtain ⟨xs, ⟨A, c, rfl, a1, a2, a3, a4⟩, a5, rfl⟩ := ha
  obtain ⟨ys, ⟨B, d, rfl, b1, b2, b3, b4⟩, b5, rfl⟩ := hb
  exact cmp_any A B c d xs ys w a1 b1 (by omega) (by omega)
end I
end Go.Proofs.YtgbfpimdnmmfpaaGreatDoor
