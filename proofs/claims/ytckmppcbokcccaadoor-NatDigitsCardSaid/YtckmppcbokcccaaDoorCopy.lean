/-
  The document's Copy for words; writing over words; the laws' own small functions.
-/
import Derived.Test.YtckmppcbokcccaaDoorA8
namespace Go.Proofs.YtckmppcbokcccaaDoor
open Go Go.RowKit Go.Proofs Pl
set_option linter.unusedVariables false

theorem ow_snoc {w : World} {B : Nat} {v : Value} {ys : List Nat} {x n : Nat} (hy : All WB ys) (hx : x < WB) (hn : n = ys.length) (h : w.ownsRow B 53 1 v (n + 1) (wis ys ++ [.int .u64 (x : Int)])) : Ow w B v (ys ++ [x]) := by
  subst hn
  refine ⟨hy.append (All.cons hx All.nil), ?_⟩
  rw [List.length_append, List.length_singleton, ← wis_app]
  exact h

set_option maxRecDepth 100000 in
theorem copy_walk (A : Option Addr) (c : Nat) (xs : List Nat) (w : World) (hx : Rd w A xs) (hlx : xs.length ≤ c) (hcx : c ≤ maxLen) (hlen : xs.length ≤ 274877906944) :
    Calls Tryd.prog 17 #[.slice A xs.length c] w fun e w' => ∃ v, e = .returned v ∧ Ow w' w.heap.size v xs ∧ Below w.heap.size w w' := by
  obtain ⟨n, hn⟩ : ∃ n, n = xs.length := ⟨_, rfl⟩
  rw [← hn] at hlx hlen ⊢
  obtain ⟨i0, hi, hz0, hz1, hz2⟩ := info_parts word_info
  have HX := Lib.hid hx
  have HN := Lib.hid hn
  clear hx hn hlx hcx
  go_enter Tryd.func17, Tryd.ntmps17
  go_wp2_with fail
  go_loopw [3, 4] (fun v i wr => ∃ k : Nat, i = .int .i64 (k : Int) ∧ k ≤ n ∧ Hid (Ow wr w.heap.size v (xs.take k) ∧ Below w.heap.size w wr)) (fun _ i _ => n - (intOf i).toNat)
  case atStart => exact ⟨0, rfl, by omega, made_own w 0 0 (by omega) (by decide), below_al _ _⟩
  case round =>
    obtain ⟨k, rfl, hk, hO⟩ := hrel
    by_cases hlt : k < n
    · obtain ⟨b, o, rfl, hc⟩ := (HX.out.keep hO.out.2).at_ (j := k) (by rw [← HN.out]; exact hlt)
      have hm := hc k _ (atD_some (by rw [← HN.out]; exact hlt))
      have htk : (xs.take k).length = k := by rw [List.length_take, ← HN.out]; omega
      have HTK := Lib.hid htk
      clear hc htk
      go_wp2_with (at_builtin; refine wpList_append_own _ rfl _ _ 23 rfl w.heap.size 53 i0 (.int .u64 0) 1 8 Tryd.underlying23 hi hz0 hz1 hz2 rfl (by decide) _ _ _ rfl (hO.out.1.2.alloc _) ⟨wr.heap.size, 0, none⟩ 1 1 [.int .u64 (atD xs k : Int)] rfl rfl (cell_one_new _ _ _) ?c2 ?c3 ?c4 ?c5 ?_)
      case c2 => intro u hu; rw [List.mem_singleton] at hu; subst hu; rfl
      case c3 => rw [HTK.out]; unfold maxLen; omega
      case c4 => rw [HTK.out]; omega
      case c5 => exact Nat.le_trans hO.out.2.size (by simp)
      intro v5 w5 hown hgrow _
      have h1 := ow_snoc (hO.out.1.1) (atD_lt HX.out.1 k) (by rw [List.length_take]) hown
      rw [← take_snoc (by rw [← HN.out]; exact hlt)] at h1
      have hb : Below w.heap.size w w5 := (below_trans hO.out.2 (below_al _ _)).grown hgrow (Nat.le_trans hO.out.2.size (by simp)) (fun j hj => own_ge hO.out.1.2 j hj)
      have K := Lib.hid (And.intro h1 hb)
      clear hown hgrow h1 hb
      go_wp2_with fail
      go_roundw
      case rel => exact ⟨k + 1, by go_num, by omega, K.out⟩
      case measure => simp [intOf]; omega
    · obtain rfl : k = n := by omega
      go_wp2_with fail
      go_ret
      have h1 := hO.out
      rw [List.take_of_length_le (by rw [← HN.out]; exact Nat.le_refl _)] at h1
      exact ⟨_, rfl, h1⟩
theorem copy_nl {w : World} {a : Value} {xs : List Nat} (ha : Nl w a xs) (hl : xs.length ≤ 274877906944) :
    Calls Tryd.prog 17 #[a] w fun e w' => ∃ v, e = .returned v ∧ Ow w' w.heap.size v xs ∧ Below w.heap.size w w' := by
  obtain ⟨A, c, rfl, a1, a2, a3, a4⟩ := ha
  exact copy_walk A c xs w a1 a2 a3 hl

set_option maxRecDepth 100000 in
/-- Words are written over: nothing else turns. -/
theorem spoil_any (B : Nat) (v : Value) (xs : List Nat) (w : World) (hO : Ow w B v xs) :
    Calls Tryd.prog 23 #[v] w fun e w' => e = .returned (.tuple #[]) ∧ w.grownBy w' v.ownBlock := by
  obtain ⟨A, c, rfl, h1, h2⟩ := hO.slice
  obtain ⟨n, hn⟩ : ∃ n, n = xs.length := ⟨_, rfl⟩
  have hO' := hO
  rw [← hn] at hO' h1 ⊢
  have hnm : n ≤ 9223372036854775807 := by unfold maxLen at h2; omega
  have HO := Lib.hid hO'
  have HN := Lib.hid hn
  clear hO hO' hn h1 h2
  go_enter Tryd.func23, Tryd.ntmps23
  go_wp2_with fail
  go_loopw [5] (fun i wr => ∃ k : Nat, i = .int .i64 (k : Int) ∧ k ≤ n ∧ Hid ((∃ ys : List Nat, ys.length = n ∧ Ow wr B (.slice A n c) ys) ∧ w.grownBy wr (Value.slice A n c).ownBlock)) (fun i _ => n - (intOf i).toNat)
  case atStart => exact ⟨0, rfl, by omega, ⟨xs, HN.out.symm, HO.out⟩, World.grownBy.refl _ _⟩
  case round =>
    obtain ⟨k, rfl, hk, hS⟩ := hrel
    by_cases hlt : k < n
    · obtain ⟨⟨ys, hy, hOy⟩, hg⟩ := hS.out
      obtain ⟨g, rfl, -, -, hgs, -, -, hcs, hfr⟩ := hOy.at_ (j := k) (by omega)
      have hm := hcs k _ (atD_some (by omega))
      have hf := hfr k
      have h4 := hOy.set_ hy.symm (j := k) (x := 238) (by rw [WB_eq]; decide)
      have h5 : (Value.slice (some ⟨g, 0, none⟩) n c).ownBlock = some g := rfl
      rw [h5] at hg
      have h6 := grown_set hg k (.int .u64 238)
      have K := Lib.hid (And.intro h4 (And.intro h6 (And.intro hy h5)))
      clear hOy hg hcs hfr h4 h6 hy h5 hS hgs
      go_wp2_with fail
      go_roundw
      case rel => exact ⟨k + 1, by go_num, by omega, ⟨_, by rw [List.length_set]; exact K.out.2.2.1, K.out.1⟩, by rw [K.out.2.2.2]; exact K.out.2.1⟩
      case measure => simp [intOf]; omega
    · go_wp2_with fail
      go_end0
      exact ⟨rfl, hS.out.2⟩
theorem great_no {w : World} {a b : Value} {xs ys : List Nat} (ha : Nl w a xs) (hb : Nl w b ys) (h1 : xs.length ≤ 90) (h2 : ys.length ≤ 90) :
    Calls Tryd.prog 16 #[a, b] w fun e w' => e = .returned (.bool false) ∧ w = w' := by
  obtain ⟨A, c, rfl, a1, a2, a3, a4⟩ := ha
  obtain ⟨B, d, rfl, b1, b2, b3, b4⟩ := hb
  obtain ⟨n, hn⟩ : ∃ n, n = xs.length := ⟨_, rfl⟩
  obtain ⟨m, hm⟩ : ∃ m, m = ys.length := ⟨_, rfl⟩
  rw [← hn] at h1 ⊢
  rw [← hm] at h2 ⊢
  have i1 : (n : Int) ≤ 90 := by omega
  have i2 : (m : Int) ≤ 90 := by omega
  clear a1 a2 a3 a4 b1 b2 b3 b4 hn hm h1 h2
  go_enter Tryd.func16, Tryd.ntmps16
  go_wp2_with fail
  go_ret
  refine ⟨?_, rfl⟩
  show Ending.returned (.bool (decide (90 < (n : Int)) || decide (90 < (m : Int)))) = _
  rw [decide_eq_false (by omega), decide_eq_false (by omega)]; rfl
theorem great_yes {w : World} {a b : Value} {xs ys : List Nat} (ha : Nl w a xs) (hb : Nl w b ys) (h : ¬ (xs.length ≤ 90 ∧ ys.length ≤ 90)) :
    Calls Tryd.prog 16 #[a, b] w fun e w' => e = .returned (.bool true) ∧ w = w' := by
  obtain ⟨A, c, rfl, a1, a2, a3, a4⟩ := ha
  obtain ⟨B, d, rfl, b1, b2, b3, b4⟩ := hb
  obtain ⟨n, hn⟩ : ∃ n, n = xs.length := ⟨_, rfl⟩
  obtain ⟨m, hm⟩ : ∃ m, m = ys.length := ⟨_, rfl⟩
  rw [← hn, ← hm] at h ⊢
  clear a1 a2 a3 a4 b1 b2 b3 b4 hn hm
  by_cases h1 : n ≤ 90
  · have i1 : (n : Int) ≤ 90 := by omega
    have i2 : (90 : Int) < (m : Int) := by omega
    clear h h1
    go_enter Tryd.func16, Tryd.ntmps16
    go_wp2_with fail
    go_ret
    first
      | exact ⟨rfl, rfl⟩
      | refine ⟨?_, rfl⟩
        show Ending.returned (.bool (decide (90 < (n : Int)) || decide (90 < (m : Int)))) = _
        first
          | (rw [decide_eq_true (p := 90 < (n : Int)) i1]; rfl)
          | (rw [decide_eq_true (p := 90 < (m : Int)) i2, Bool.or_true])
  · have i1 : (90 : Int) < (n : Int) := by omega
    clear h h1
    go_enter Tryd.func16, Tryd.ntmps16
    go_wp2_with fail
    go_ret
    first
      | exact ⟨rfl, rfl⟩
      | refine ⟨?_, rfl⟩
        show Ending.returned (.bool (decide (90 < (n : Int)) || decide (90 < (m : Int)))) = _
        first
          | (rw [decide_eq_true (p := 90 < (n : Int)) i1]; rfl)
          | (rw [decide_eq_true (p := 90 < (m : Int)) i2, Bool.or_true])
end Go.Proofs.YtckmppcbokcccaaDoor
