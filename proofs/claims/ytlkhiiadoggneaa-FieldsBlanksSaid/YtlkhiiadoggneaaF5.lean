/-
  The statements' own example holds.
-/
import Derived.Test.YtlkhiiadoggneaaF4
namespace Go.Proofs.Ytlkhiiadoggneaa
open Go Go.RowKit Go.Lib Go.Proofs

theorem ex_lines : linesOf ⟨#[82, 79, 87, 83, 10, 32, 78, 32, 32, 99, 111, 115, 116, 13, 10, 42, 32, 120, 10, 10]⟩ = ([⟨1, true, [⟨#[82, 79, 87, 83]⟩]⟩, ⟨2, false, [⟨#[78]⟩, ⟨#[99, 111, 115, 116]⟩]⟩], 0, 4) := by kernel_rfl

set_option maxHeartbeats 1000000 in
theorem speaks_any (m : Int) (w : World) (hm : w.cell? ⟨0, 0, none⟩ = some (.int .i64 m)) :
    Calls Try.prog 5 #[] w fun e w' => e = .returned (.bool true) ∧ Below w.heap.size w w' := by
  have hL := lines_any ⟨#[82, 79, 87, 83, 10, 32, 78, 32, 32, 99, 111, 115, 116, 13, 10, 42, 32, 120, 10, 10]⟩ m w (by decide) hm
  have hL' := hL.mono (R' := fun e w' => ∃ g cap A A', e = .returned (.tuple #[.slice (some ⟨g, 0, none⟩) 2 cap, .int .i64 0, .int .i64 4]) ∧ Below w.heap.size w w' ∧ 2 ≤ cap ∧
      w'.cell? ⟨g, 0, none⟩ = some (.int .i64 1) ∧ w'.cell? ⟨g, 1, none⟩ = some (.bool true) ∧ w'.cell? ⟨g, 3, none⟩ = some (.int .i64 2) ∧ w'.cell? ⟨g, 4, none⟩ = some (.bool false) ∧
      w'.cell? ⟨g, 5, none⟩ = some (.slice (some ⟨A, 0, none⟩) 2 A') ∧ 2 ≤ A' ∧ w'.cell? ⟨A, 1, none⟩ = some (.string ⟨#[99, 111, 115, 116]⟩)) (by
    rintro e w' ⟨v, he, hl, hb⟩
    rw [ex_lines] at he hl
    obtain ⟨g, cap, A, hv, _, hc, _, c1, c2, c3, c4, _⟩ := hl.at_ (i := 0) (by decide)
    obtain ⟨g', cap', A', hv', _, hc', _, d1, d2, d3, d4, _⟩ := hl.at_ (i := 1) (by decide)
    have hgg : g' = g := by
      rw [hv'] at hv
      injection hv with hv
      injection hv with hv
      injection hv with hv
    subst hgg
    exact ⟨g', cap, A', 2, by rw [he, hv]; rfl, hb, hc, c1, c2, d1, d2, d3, by decide, d4 1 (by decide)⟩)
  clear hL
  have HL := Lib.hid hL'
  clear hL'
  go_enter Try.func5, Try.ntmps5
  go_wp2_with (go_at_call 6; refine HL.out.mono ?_; rintro e w' ⟨g, cap, A, A', rfl, hb, hc, c1, c2, d1, d2, d3, hA', d4⟩)
  go_ret
  exact ⟨rfl, hb⟩
end Go.Proofs.Ytlkhiiadoggneaa
