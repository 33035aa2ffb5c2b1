/-
  zint: Of, To.
-/
import Derived.Test.YtgbfpimdnmmfpaaGreatDoorZ2
import Derived.IntWalk
namespace Go.Proofs.YtgbfpimdnmmfpaaGreatDoor
open Go Go.RowKit Go.Proofs Pl
set_option linter.unusedVariables false

theorem word_one (w : World) (o : Obj) (x : Nat) (hx : x < WB) : Nm ((w.alloc o).alloc (.cells #[.int .u64 (x : Int)] 84)) 1 (.slice (some ⟨w.heap.size + 1, 0, none⟩) 1 1) x :=
  ⟨_, nl_one' (w.alloc o) x _ (by simp) hx, by simp, by simp [val]⟩
set_option maxRecDepth 100000 in
theorem of_pos {w : World} {n : Nat} (h : n < 9223372036854775808) :
    Calls Tryz.prog 38 #[.int .i64 (n : Int)] w fun e w' => ∃ v, e = .returned v ∧ Zs w w' v (n : Int) := by
  have h0 : (0 : Int) ≤ (n : Int) := by omega
  have hu : IntKind.u64.wrap (n : Int) = (n : Int) := IntWalk.u64_in _ (by omega)
  have HH := Lib.hid h
  clear h
  go_enter Tryz.func38, Tryz.ntmps38
  go_wp2_with fail
  refine (make_z false (word_one w _ _ (by rw [WB_eq]; have := HH.out; omega)) (by decide)).mono ?_; rintro e w2 ⟨v2, rfl, h2⟩
  obtain ⟨p, A, la, c, rfl, H2⟩ := h2.parts
  have X := ((Bx.new 24 w (.bool false) (.slice none 0 0)).alloc _).keep h2.below
  obtain ⟨c0, c1, f0, f1⟩ := X.facts
  have HX := Lib.hid (And.intro X (h2.from (below_trans (below_al w _) (below_al _ _))))
  clear X h2 H2
  go_wp2_with fail
  refine ret_bx HX.out.1 (fun W d0 d1 => by simp [results, Tryz.results38, go_sem, d0, d1]) rfl ?_
  have hz := HX.out.2.put int_word HX.out.1 (Nat.le_refl _)
  rw [show sg false n = (n : Int) from rfl] at hz
  exact ⟨_, rfl, hz _ _⟩
set_option maxRecDepth 100000 in
theorem of_neg {w : World} {n : Nat} (h : n < 9223372036854775808) :
    Calls Tryz.prog 38 #[.int .i64 (-(n : Int) - 1)] w fun e w' => ∃ v, e = .returned v ∧ Zs w w' v (-(n : Int) - 1) := by
  obtain ⟨k, hk⟩ : ∃ k : Int, k = -(n : Int) - 1 := ⟨_, rfl⟩
  obtain ⟨k1, hk1⟩ : ∃ k1 : Int, k1 = -(n : Int) := ⟨_, rfl⟩
  obtain ⟨m, hm⟩ : ∃ m : Nat, m = n + 1 := ⟨_, rfl⟩
  rw [← hk]
  have h0 : k < 0 := by omega
  have h1 : IntKind.i64.wrap (k + 1) = k1 := by rw [show k + 1 = k1 by omega]; exact IntWalk.i64_in _ (by omega)
  have h2 : IntKind.i64.wrap (-k1) = (n : Int) := by rw [show -k1 = n by omega]; exact IntWalk.i64_in _ (by omega)
  have h3 : IntKind.u64.wrap (n : Int) = (n : Int) := IntWalk.u64_in _ (by omega)
  have h4 : IntKind.u64.wrap ((n : Int) + 1) = (m : Int) := by rw [show (n : Int) + 1 = m by omega]; exact IntWalk.u64_in _ (by omega)
  have HK := Lib.hid (And.intro hk (And.intro hm h))
  clear h hk hk1 hm
  go_enter Tryz.func38, Tryz.ntmps38
  go_wp2_with fail
  refine (make_z true (word_one w _ _ (by rw [WB_eq]; have := HK.out; omega)) (by decide)).mono ?_; rintro e w2 ⟨v2, rfl, h2⟩
  obtain ⟨p, A, la, c, rfl, H2⟩ := h2.parts
  have X := ((Bx.new 24 w (.bool false) (.slice none 0 0)).alloc _).keep h2.below
  obtain ⟨c0, c1, f0, f1⟩ := X.facts
  have HX := Lib.hid (And.intro X (h2.from (below_trans (below_al w _) (below_al _ _))))
  clear X h2 H2
  go_wp2_with fail
  refine ret_bx HX.out.1 (fun W d0 d1 => by simp [results, Tryz.results38, go_sem, d0, d1]) rfl ?_
  have hz := HX.out.2.put int_word HX.out.1 (Nat.le_refl _)
  rw [show sg true m = k from by have := HK.out; simp only [sg, if_true]; omega] at hz
  exact ⟨_, rfl, hz _ _⟩
/-- An int64. -/
def Small64 (z : Int) : Prop := -9223372036854775808 ≤ z ∧ z ≤ 9223372036854775807
theorem of_z {w : World} {z : Int} (h : Small64 z) : Calls Tryz.prog 38 #[.int .i64 z] w fun e w' => ∃ v, e = .returned v ∧ Zs w w' v z := by
  unfold Small64 at h
  by_cases h0 : 0 ≤ z
  · obtain ⟨n, rfl⟩ : ∃ n : Nat, z = (n : Int) := ⟨z.toNat, by omega⟩
    exact of_pos (by omega)
  · obtain ⟨n, rfl⟩ : ∃ n : Nat, z = -(n : Int) - 1 := ⟨(-z - 1).toNat, by omega⟩
    exact of_neg (by omega)
end Go.Proofs.YtgbfpimdnmmfpaaGreatDoor
