/-
  ref.Same of two lists of lines that are one: true.
-/
import Derived.Test.YtlkhiiadoggneaaF3
import Derived.Deep.QuietTactic
import Derived.BigQuiet
namespace Go.Proofs.Ytlkhiiadoggneaa
open Go Go.RowKit Go.Lib Go.Proofs

/-- The cells of an owned row, place by place. -/
theorem own_cells {w : World} {B : Nat} {t : TypeId} {size n : Nat} {v : Value} {xs : List Value} (h : w.ownsRow B t size v n xs) (hn : 0 < n) :
    ∃ g cap, v = .slice (some ⟨g, 0, none⟩) n cap ∧ B ≤ g ∧ n ≤ cap ∧ cap ≤ maxLen ∧ g < w.heap.size ∧ (∀ (j : Nat) (u : Value), xs[j]? = some u → w.cell? ⟨g, j, none⟩ = some u) ∧ (∀ j, w.frozen? ⟨g, j, none⟩ = false) := by
  rcases h.2 with ⟨_, h0⟩ | ⟨g, cap, cur, hv, hb, hh, h1, h2, h3, h4⟩
  · omega
  · refine ⟨g, cap, hv, hb, h1, h2, heap_lt hh, fun j u hj => ?_, fun j => by simp [World.frozen?, hh]⟩
    rw [cell_of_row w g j cur t _ hh, ← Array.getElem?_toList]
    rw [← h4] at hj
    rw [List.getElem?_take] at hj
    split at hj
    · exact hj
    · cases hj

theorem LnCells.len {w : World} {B : Nat} {ls : List Ln} {us : List Value} (h : LnCells w B ls us) : us.length = ls.length * 3 := by
  induction ls generalizing us with
  | nil => rw [show us = [] from h]; rfl
  | cons l ls ih =>
    obtain ⟨A, us', h1, h2, h3⟩ := h
    rw [h1]; simp only [List.length_cons, ih h3]; omega
theorem LnCells.at_ {w : World} {B : Nat} {ls : List Ln} {us : List Value} (h : LnCells w B ls us) {i : Nat} (hi : i < ls.length) :
    ∃ A, us[i * 3]? = some (.int .i64 ls[i].no) ∧ us[i * 3 + 1]? = some (.bool ls[i].head) ∧ us[i * 3 + 2]? = some (.slice (some ⟨A, 0, none⟩) ls[i].words.length ls[i].words.length) ∧
      w.ownsRow B 9 1 (.slice (some ⟨A, 0, none⟩) ls[i].words.length ls[i].words.length) ls[i].words.length (ls[i].words.map Value.string) := by
  induction ls generalizing us i with
  | nil => simp at hi
  | cons l ls ih =>
    obtain ⟨A, us', h1, h2, h3⟩ := h
    subst h1
    cases i with
    | zero => exact ⟨A, rfl, rfl, rfl, h2⟩
    | succ i =>
      obtain ⟨A', a, b, c, d⟩ := ih h3 (i := i) (by simpa using hi)
      refine ⟨A', ?_, ?_, ?_, d⟩
      · rw [show (i + 1) * 3 = i * 3 + 3 from by omega]; exact a
      · rw [show (i + 1) * 3 + 1 = i * 3 + 1 + 3 from by omega]; exact b
      · rw [show (i + 1) * 3 + 2 = i * 3 + 2 + 3 from by omega]; exact c
/-- What the place i of a slice of lines holds. -/
theorem Lns.at_ {w : World} {B : Nat} {v : Value} {ls : List Ln} (h : Lns w B v ls) {i : Nat} (hi : i < ls.length) :
    ∃ g cap A, v = .slice (some ⟨g, 0, none⟩) ls.length cap ∧ B ≤ g ∧ ls.length ≤ cap ∧ cap ≤ maxLen ∧ w.cell? ⟨g, i * 3, none⟩ = some (.int .i64 ls[i].no) ∧ w.cell? ⟨g, i * 3 + 1, none⟩ = some (.bool ls[i].head) ∧
      w.cell? ⟨g, i * 3 + 2, none⟩ = some (.slice (some ⟨A, 0, none⟩) ls[i].words.length ls[i].words.length) ∧ (∀ k, k < ls[i].words.length → w.cell? ⟨A, k, none⟩ = some (.string (ls[i].words.getD k ByteArray.empty))) ∧ ls[i].words.length ≤ maxLen := by
  obtain ⟨us, h1, h2⟩ := h
  obtain ⟨g, cap, hv, hb, hc1, hc2, hg, hcell, hfr⟩ := own_cells h1 (by omega)
  obtain ⟨A, a, b, c, d⟩ := h2.at_ hi
  refine ⟨g, cap, A, hv, hb, hc1, hc2, hcell _ _ a, hcell _ _ b, hcell _ _ c, fun k hk => ?_, ?_⟩
  · obtain ⟨g', cap', hv', _, _, _, _, hcell', _⟩ := own_cells d (by omega)
    injection hv' with hv'
    injection hv' with hv'
    injection hv' with hv'
    subst hv'
    refine hcell' k _ ?_
    rw [List.getElem?_map, List.getD_eq_getElem?_getD, List.getElem?_eq_getElem hk]
    rfl
  · rcases Nat.eq_zero_or_pos ls[i].words.length with h0 | h0
    · omega
    · obtain ⟨g', cap', hv', _, h5, h6, _, hcell', _⟩ := own_cells d h0
      omega

theorem own_slice {w : World} {B : Nat} {t : TypeId} {size n : Nat} {v : Value} {xs : List Value} (h : w.ownsRow B t size v n xs) : ∃ A cap, v = .slice A n cap ∧ n ≤ maxLen := by
  rcases h.2 with ⟨hv, h0⟩ | ⟨g, cap, cur, hv, hb, hh, h1, h2, h3, h4⟩
  · exact ⟨none, 0, by rw [hv, h0], by omega⟩
  · exact ⟨_, cap, hv, by omega⟩
theorem beq_true_i (i : Int) : (i != i) = false := by simp
set_option maxHeartbeats 1000000 in
theorem same_any (a b : Value) (B B' : Nat) (ls : List Ln) (w : World) (ha : Lns w B a ls) (hb : Lns w B' b ls) :
    Calls Try.prog 7 #[a, b] w fun e w' => e = .returned (.bool true) ∧ ∃ q, w' = w.drewN q := by
  have hA := fun i (hi : i < ls.length) => ha.at_ hi
  have hB := fun i (hi : i < ls.length) => hb.at_ hi
  obtain ⟨_, h1, _⟩ := ha
  obtain ⟨_, h2, _⟩ := hb
  obtain ⟨A1, c1, rfl, hmax⟩ := own_slice h1
  obtain ⟨A2, c2, rfl, _⟩ := own_slice h2
  clear h1 h2
  unfold maxLen at hmax
  go_enter Try.func7, Try.ntmps7
  go_wp2
  go_loopw [5] (fun i wr => ∃ (k q : Nat), i = .int .i64 k ∧ k ≤ ls.length ∧ wr = w.drewN q) (fun i _ => ls.length - (intOf i).toNat)
  case atStart => exact ⟨0, 0, rfl, by omega, rfl⟩
  case round =>
    obtain ⟨k, q, rfl, hk, rfl⟩ := hrel
    by_cases hlt : k < ls.length
    · obtain ⟨g, cap, A, hv, _, hc, hcm, e1, e2, e3, e4, e5⟩ := hA k hlt
      obtain ⟨g', cap', A', hv', _, hc', hcm', f1, f2, f3, f4, _⟩ := hB k hlt
      injection hv with hv _ hcc
      injection hv' with hv' _ hcc'
      subst hv; subst hv'; subst hcc; subst hcc'
      clear hA hB
      go_wp2_with fail
      go_quiet (fail)
      go_wp2_with fail
      unfold maxLen at e5
      have ewords : ∀ j, j < ls[k].words.length → ∃ s, w.cell? ⟨A, j, none⟩ = some (.string s) ∧ w.cell? ⟨A', j, none⟩ = some (.string s) := fun j hj => ⟨_, e4 j hj, f4 j hj⟩
      clear e4 f4
      go_loopw [6] (fun i wr => ∃ (j q : Nat), i = .int .i64 j ∧ j ≤ ls[k].words.length ∧ wr = w.drewN q) (fun i _ => ls[k].words.length - (intOf i).toNat)
      case atStart => exact ⟨0, _, rfl, by omega, by first | rfl | (simp; rfl)⟩
      case round =>
        obtain ⟨j, q1, rfl, hj, rfl⟩ := hrel
        by_cases hjl : j < ls[k].words.length
        · obtain ⟨s, hs1, hs2⟩ := ewords j hjl
          clear ewords
          go_wp2_with fail
          go_quiet (fail)
          go_wp2_with fail
          go_roundw
          case rel => exact ⟨j + 1, _, by go_num, by omega, by first | rfl | (simp; rfl)⟩
          case measure => simp [intOf]; omega
        · go_wp2_with fail
          go_roundw
          case rel => exact ⟨k + 1, _, by go_num, by omega, rfl⟩
          case measure => simp [intOf]; omega
    · go_wp2
      go_ret
      exact ⟨rfl, q, rfl⟩
end Go.Proofs.Ytlkhiiadoggneaa
