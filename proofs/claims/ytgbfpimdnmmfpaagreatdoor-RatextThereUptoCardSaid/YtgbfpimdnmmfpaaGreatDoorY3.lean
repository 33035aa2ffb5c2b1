/-
  The document's whole numbers: Small, Same, Copy, Text.
-/
import Derived.Test.YtgbfpimdnmmfpaaGreatDoorY2
import Derived.Test.YtgbfpimdnmmfpaaGreatDoorZ5
import Derived.Test.YtgbfpimdnmmfpaaGreatDoorZ7
import Derived.Test.YtgbfpimdnmmfpaaGreatDoorI16
namespace Go.Proofs.YtgbfpimdnmmfpaaGreatDoor
namespace I
open Go Go.RowKit Go.Proofs Pl
set_option linter.unusedVariables false

theorem one_dn (w : World) : Dn (w.alloc (.cells #[.int .i64 1] 3)) 1 (.slice (some ⟨w.heap.size, 0, none⟩) 1 1) 1 := by
  exact lit_dn w (x := 1) (L := 1) (by rw [TB_eq]; decide) (by decide) (Nat.le_refl _)
set_option maxRecDepth 100000 in
theorem small_pos {w : World} {n : Nat} (h : n < 9223372036854775808) :
    Calls Tryz.prog 40 #[.int .i64 (n : Int)] w fun e w' => ∃ v, e = .returned v ∧ Zd w' 7 v (n : Int) ∧ Below w.heap.size w w' := by
  have hs := fun W => small_any n W h
  have hf := fun w1 v1 (h1 : Dn w1 7 v1 n) => form_d false h1 (by decide)
  have hlt : n < TB ^ 7 := by rw [TB_eq]; omega
  have HA := Lib.hid (And.intro hs (And.intro hf hlt))
  have h0 : (0 : Int) ≤ (n : Int) := by omega
  have hw : IntKind.i64.wrap (n : Int) = (n : Int) := IntWalk.i64_in _ (by omega)
  clear hs hf h hlt
  go_enter Tryz.func40, Tryz.ntmps40
  go_wp2_with fail
  refine (HA.out.1 _).mono ?_; rintro e w1 ⟨v1, rfl, h1⟩
  have X := (Bx.new 33 w (.bool false) (.slice none 0 0)).keep h1.2
  have H1 := Lib.hid (And.intro X (And.intro (HA.out.2.1 _ _ (h1.dn HA.out.2.2)) (below_trans (below_al w _) h1.2)))
  clear X h1 HA
  go_wp2_with fail
  refine H1.out.2.1.mono ?_; rintro e w2 ⟨v2, rfl, h2, hb2⟩
  obtain ⟨p, A, la, c, rfl, H2'⟩ := h2.parts
  have X := H1.out.1.keep hb2
  obtain ⟨c0, c1, f0, f1⟩ := X.facts
  have H2 := Lib.hid (And.intro X (And.intro h2 (below_trans H1.out.2.2 hb2)))
  clear X h2 H2' hb2 H1
  go_wp2_with fail
  refine ret_bx H2.out.1 (fun W d0 d1 => by simp [results, Tryz.results40, go_sem, d0, d1]) rfl ?_
  exact ⟨_, rfl, H2.out.2.1.put H2.out.1 _ _, H2.out.1.below H2.out.2.2 (Nat.le_refl _) (Nat.le_refl _) _ _⟩
set_option maxRecDepth 100000 in
theorem small_neg {w : World} {n : Nat} (h : n < 9223372036854775808) :
    Calls Tryz.prog 40 #[.int .i64 (-(n : Int) - 1)] w fun e w' => ∃ v, e = .returned v ∧ Zd w' 7 v (-(n : Int) - 1) ∧ Below w.heap.size w w' := by
  have hs := fun W => small_any n W h
  have ha := fun w1 v1 (h1 : Dn w1 5 v1 n) => add_dn (h1.keep (below_al w1 _)) (one_dn w1) (by decide) (by decide)
  have hf := fun w1 v1 (h1 : Dn w1 7 v1 (n + 1)) => form_d true h1 (by decide)
  have hlt : n < TB ^ 5 := by rw [TB_eq]; omega
  have hz : sg true (n + 1) = -(n : Int) - 1 := by simp only [sg, if_true]; omega
  rw [hz] at hf
  have HA := Lib.hid (And.intro hs (And.intro ha (And.intro hf hlt)))
  obtain ⟨k, hk⟩ : ∃ k : Int, k = -(n : Int) - 1 := ⟨_, rfl⟩
  obtain ⟨k1, hk1⟩ : ∃ k1 : Int, k1 = -(n : Int) := ⟨_, rfl⟩
  rw [← hk] at HA ⊢
  have h0 : ¬ 0 ≤ k := by omega
  have h1 : IntKind.i64.wrap (k + 1) = k1 := by rw [show k + 1 = k1 by omega]; exact IntWalk.i64_in _ (by omega)
  have h2 : IntKind.i64.wrap (-k1) = (n : Int) := by rw [show -k1 = n by omega]; exact IntWalk.i64_in _ (by omega)
  have h3 : IntKind.i64.wrap (n : Int) = (n : Int) := IntWalk.i64_in _ (by omega)
  clear h hk hk1 hs ha hf hlt hz
  go_enter Tryz.func40, Tryz.ntmps40
  go_wp2_with fail
  refine (HA.out.1 _).mono ?_; rintro e w1 ⟨v1, rfl, h1⟩
  have X := (Bx.new 33 w (.bool false) (.slice none 0 0)).keep h1.2
  have H1 := Lib.hid (And.intro X (And.intro (HA.out.2.1 _ _ (h1.dn HA.out.2.2.2)) (below_trans (below_al w _) h1.2)))
  clear X h1
  go_wp2_with fail
  refine H1.out.2.1.mono ?_; rintro e w2 ⟨v2, rfl, h2, hb2⟩
  have X := (H1.out.1.alloc _).keep hb2
  have H2 := Lib.hid (And.intro X (And.intro (HA.out.2.2.1 _ _ h2) (below_trans H1.out.2.2 (below_trans (below_al _ _) hb2))))
  clear X h2 hb2 H1 HA
  go_wp2_with fail
  refine H2.out.2.1.mono ?_; rintro e w3 ⟨v3, rfl, h3, hb3⟩
  obtain ⟨p, A, la, c, rfl, H3'⟩ := h3.parts
  have X := H2.out.1.keep hb3
  obtain ⟨c0, c1, f0, f1⟩ := X.facts
  have H3 := Lib.hid (And.intro X (And.intro h3 (below_trans H2.out.2.2 hb3)))
  clear X h3 H3' hb3 H2
  go_wp2_with fail
  refine ret_bx H3.out.1 (fun W d0 d1 => by simp [results, Tryz.results40, go_sem, d0, d1]) rfl ?_
  exact ⟨_, rfl, H3.out.2.1.put H3.out.1 _ _, H3.out.1.below H3.out.2.2 (Nat.le_refl _) (Nat.le_refl _) _ _⟩
theorem small_d {w : World} {z : Int} (h : Small64 z) : Calls Tryz.prog 40 #[.int .i64 z] w fun e w' => ∃ v, e = .returned v ∧ Zd w' 7 v z ∧ Below w.heap.size w w' := by
  unfold Small64 at h
  by_cases h0 : 0 ≤ z
  · obtain ⟨n, rfl⟩ : ∃ n : Nat, z = (n : Int) := ⟨z.toNat, by omega⟩
    exact small_pos (by omega)
  · obtain ⟨n, rfl⟩ : ∃ n : Nat, z = -(n : Int) - 1 := ⟨(-z - 1).toNat, by omega⟩
    exact small_neg (by omega)
set_option maxRecDepth 100000 in
theorem text_d {w : World} {L : Nat} {a : Value} {z : Int} (ha : Zd w L a z) (hL : L ≤ 1000) :
    Calls Tryz.prog 25 #[a] w fun e w' => e = .returned (.string (textZ z)) ∧ Below w.heap.size w w' := by
  obtain ⟨s, rfl, hs⟩ := ha
  have htx := fun W (hb : Below w.heap.size w W) => text_dn W (hs.keep hb) hL
  obtain ⟨d, hd⟩ : ∃ d : ByteArray, (⟨(Lib.decDigits z.natAbs).toArray⟩ : ByteArray) = d := ⟨_, rfl⟩
  simp only [hd] at htx
  have hsz : d.size ≤ 21474836480 := by
    have hlt : z.natAbs < WB ^ (L + 1) := Nat.lt_of_lt_of_le hs.2 (Nat.le_trans (Nat.pow_le_pow_left (by rw [TB_eq, WB_eq]; decide) L) (Nat.pow_le_pow_right WB_pos (by omega)))
    rw [← hd, size_toArray]
    have := dec_short' (q := L + 1) (by omega) hlt
    omega
  have et : textZ z = if z < 0 then ByteArray.mk #[45] ++ d else d := by rw [← hd]; rfl
  have HA := Lib.hid htx
  clear htx hs hd hL
  by_cases hz : z < 0
  · rw [if_pos hz] at et
    rw [et, decide_eq_true hz]
    clear et hz
    go_enter Tryz.func25, Tryz.ntmps25
    go_wp2_with fail
    refine (HA.out _ (by go_grown)).mono ?_; rintro e w2 ⟨rfl, hb2⟩
    have HC := Lib.hid (below_trans (below_al w _) hb2)
    clear hb2
    go_wp2_with fail
    go_ret
    exact ⟨rfl, HC.out⟩
  · rw [if_neg hz] at et
    rw [et, decide_eq_false hz]
    clear et hz
    go_enter Tryz.func25, Tryz.ntmps25
    go_wp2_with fail
    refine (HA.out _ (by go_grown)).mono ?_; rintro e w2 ⟨rfl, hb2⟩
    have HC := Lib.hid (below_trans (below_al w _) hb2)
    clear hb2
    go_wp2_with fail
    go_ret
    exact ⟨rfl, HC.out⟩
end I
end Go.Proofs.YtgbfpimdnmmfpaaGreatDoor
