/-
  The document's Copy for words; writing over words; the laws' own small functions.
-/
import Derived.Test.YtgbfpimdnmmfpaaGreatDoorA8
namespace Go.Proofs.YtgbfpimdnmmfpaaGreatDoor
open Go Go.RowKit Go.Proofs Pl
set_option linter.unusedVariables false

theorem ow_snoc {w : World} {B : Nat} {v : Value} {ys : List Nat} {x n : Nat} (hy : All WB ys) (hx : x < WB) (hn : n = ys.length) (h : w.ownsRow B 84 1 v (n + 1) (wis ys ++ [.int .u64 (x : Int)])) : Ow w B v (ys ++ [x]) := by
  subst hn
  refine ⟨hy.append (All.cons hx All.nil), ?_⟩
  rw [List.length_append, List.length_singleton, ← wis_app]
  exact h

set_option maxRecDepth 100000 in
theorem copy_walk (A : Option Addr) (c : Nat) (xs : List Nat) (w : World) (hx : Rd w A xs) (hlx : xs.length ≤ c) (hcx : c ≤ maxLen) (hlen : xs.length ≤ 274877906944) :
    Calls Tryz.prog 49 #[.slice A xs.length c] w fun e w' => ∃ v, e = .returned v ∧ Ow w' w.heap.size v xs ∧ Below w.heap.size w w' := by
  obtain ⟨n, hn⟩ : ∃ n, n = xs.length := ⟨_, rfl⟩
  rw [← hn] at hlx hlen ⊢
  obtain ⟨i0, hi, hz0, hz1, hz2⟩ := info_parts word_info
  have HX := Lib.hid hx
  have HN := Lib.hid hn
  clear hx hn hlx hcx
  go_enter Tryz.func49, Tryz.ntmps49
  go_wp2_with fail
  go_loopw [3, 4] (fun v i wr => ∃ k : Nat, i = .int .i64 (k : Int) ∧ k ≤ n ∧ Hid (Ow wr w.heap.size v (xs.take k) ∧ Below w.heap.size w wr)) (fun _ i _ => n - (intOf i).toNat)
  case atStart => exact ⟨0, rfl, by omega, made_own w 0 0 (by omega) (by decide), below_al _ _⟩
  case round =>
    obtain ⟨k, rfl, hk, hO⟩ := hrel
    by_cases hlt : k < n
    · obtain ⟨b, o, rfl, hc⟩ := (HX.out.keep hO.out.2).at_ (j := k) (by rw [← HN.out]; exact hlt)
      have hm := hc k _ (atD_some (by rw [← HN.out]; exact hlt))
      have htk : (xs.take k).length = k := by rw [List.length_take, ← HN.out]; omega
      have HTK := Lib.hid htk
      clear hc htk
      go_wp2_with (at_builtin; refine wpList_append_own _ rfl _ _ 22 rfl w.heap.size 84 i0 (.int .u64 0) 1 8 Tryz.underlying22 hi hz0 hz1 hz2 rfl (by decide) _ _ _ rfl (hO.out.1.2.alloc _) ⟨wr.heap.size, 0, none⟩ 1 1 [.int .u64 (atD xs k : Int)] rfl rfl (cell_one_new _ _ _) ?c2 ?c3 ?c4 ?c5 ?_)
      case c2 => intro u hu; rw [List.mem_singleton] at hu; subst hu; rfl
      case c3 => rw [HTK.out]; unfold maxLen; omega
      case c4 => rw [HTK.out]; omega
      case c5 => exact Nat.le_trans hO.out.2.size (by simp)
      intro v5 w5 hown hgrow _
      have h1 := ow_snoc (hO.out.1.1) (atD_lt HX.out.1 k) (by rw [List.length_take]) hown
      rw [← take_snoc (by rw [← HN.out]; exact hlt)] at h1
      have hb : Below w.heap.size w w5 := (below_trans hO.out.2 (below_al _ _)).grown hgrow (Nat.le_trans hO.out.2.size (by simp)) (fun j hj => own_ge hO.out.1.2 j hj)
      have K := Lib.hid (And.intro h1 hb)
      clear hown hgrow h1 hb
      go_wp2_with fail
      go_roundw
      case rel => exact ⟨k + 1, by go_num, by omega, K.out⟩
      case measure => simp [intOf]; omega
    · obtain rfl : k = n := by omega
      go_wp2_with fail
      go_ret
      have h1 := hO.out
      rw [List.take_of_length_le (by rw [← HN.out]; exact Nat.le_refl _)] at h1
      exact ⟨_, rfl, h1⟩
theorem copy_nl {w : World} {a : Value} {xs : List Nat} (ha : Nl w a xs) (hl : xs.length ≤ 274877906944) :
    Calls Tryz.prog 49 #[a] w fun e w' => ∃ v, e = .returned v ∧ Ow w' w.heap.size v xs ∧ Below w.heap.size w w' := by
  obtain ⟨A, c, rfl, a1, a2, a3, a4⟩ := ha
  exact copy_walk A c xs w a1 a2 a3 hl

end Go.Proofs.YtgbfpimdnmmfpaaGreatDoor
