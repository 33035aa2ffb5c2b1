/-
  zint: numbers by sign and words; Make, Neg, Sign, Of, To.
-/
import Derived.Test.YtclaiidoomdklaaDoorA8
import Derived.Test.YtclaiidoomdklaaDoorZ0
import Derived.Test.YtclaiidoomdklaaDoorBx
namespace Go.Proofs.YtclaiidoomdklaaDoor
open Go Go.RowKit Go.Proofs Pl
set_option linter.unusedVariables false

/-- v reads the whole number z, in any form. -/
def Zn (w : World) (L : Nat) (v : Value) (z : Int) : Prop := ∃ b s n, v = .agg #[.bool b, s] ∧ Nm w L s n ∧ z = sg b n
/-- v reads the whole number z in its one form. -/
def Zo (w : World) (v : Value) (z : Int) : Prop := ∃ s, v = .agg #[.bool (decide (z < 0)), s] ∧ Nl w s (dg WB z.natAbs)
/-- v is z in its one form, made since w. -/
def Zs (w w' : World) (v : Value) (z : Int) : Prop := ∃ s, v = .agg #[.bool (decide (z < 0)), s] ∧ Rs w w' s z.natAbs
section
variable {w w' : World} {L L' n : Nat} {v s : Value} {z : Int} {b : Bool}
theorem Zn.keep (h : Zn w L v z) (hb : Below w.heap.size w w') : Zn w' L v z := by
  obtain ⟨b, s, n, h1, h2, h3⟩ := h
  exact ⟨b, s, n, h1, h2.keep hb, h3⟩
theorem Zo.keep (h : Zo w v z) (hb : Below w.heap.size w w') : Zo w' v z := by
  obtain ⟨s, h1, h2⟩ := h
  exact ⟨s, h1, h2.keep hb⟩
theorem Zn.mono (h : Zn w L v z) (hL : L ≤ L') : Zn w L' v z := by
  obtain ⟨b, s, n, h1, h2, h3⟩ := h
  exact ⟨b, s, n, h1, h2.mono hL, h3⟩
theorem Zn.lt (h : Zn w L v z) : z.natAbs < WB ^ L := by
  obtain ⟨b, s, n, h1, h2, rfl⟩ := h
  rw [sg_abs]; exact h2.lt
theorem Zo.zn (h : Zo w v z) (hz : z.natAbs < WB ^ L) : Zn w L v z := by
  obtain ⟨s, h1, h2⟩ := h
  exact ⟨_, s, _, h1, ⟨_, h2, dg_length_le WB_one hz, val_dg WB_one _⟩, (sg_form z).symm⟩
theorem Zs.zo (h : Zs w w' v z) : Zo w' v z := by
  obtain ⟨s, h1, h2⟩ := h
  exact ⟨s, h1, h2.nl⟩
theorem Zs.zn (h : Zs w w' v z) (hz : z.natAbs < WB ^ L) : Zn w' L v z := h.zo.zn hz
theorem Zs.below (h : Zs w w' v z) : Below w.heap.size w w' := by
  obtain ⟨s, h1, h2⟩ := h
  exact h2.2
theorem Zs.from (h : Zs w' w v z) {w0 : World} (hb : Below w0.heap.size w0 w') : Zs w0 w v z := by
  obtain ⟨s, h1, h2⟩ := h
  exact ⟨s, h1, h2.1.mono hb.size, below_trans hb h2.2⟩
theorem Zs.then (h : Zs w w' v z) {w2 : World} (hb : Below w'.heap.size w' w2) : Zs w w2 v z := by
  obtain ⟨s, h1, h2⟩ := h
  exact ⟨s, h1, h2.1.keep hb, below_trans h2.2 hb⟩
end
/-- A number's type is not a word's. -/
theorem int_word : (25 : TypeId) ≠ 42 := by decide
/-- What is stored into a result's variable stays new. -/
theorem Rs.put {t : TypeId} {w w1 : World} {g n : Nat} {a b s : Value} (ht : t ≠ 42) (X : Bx t w1 g a b) (hg : w.heap.size ≤ g) (h : Rs w w1 s n) (x y : Value) :
    Rs w ((w1.setCell ⟨g, 0, none⟩ x).setCell ⟨g, 1, none⟩ y) s n :=
  ⟨⟨h.1.1, own_keepT h.1.2 (X.keepT ht x y)⟩, X.below h.2 hg (Nat.le_refl _) x y⟩
theorem Rs.out {w w0 w1 : World} {n : Nat} {s : Value} (h : Rs w0 w1 s n) (hb : Below w.heap.size w w0) : Rs w w1 s n := ⟨h.1.mono hb.size, below_trans hb h.2⟩
theorem zs_ret {t : TypeId} {w w1 : World} {g n : Nat} {a b s : Value} {p : Bool} {z : Int} (ht : t ≠ 42) (X : Bx t w1 g a b) (hg : w.heap.size ≤ g) (h : Rs w w1 s n) (hp : p = decide (z < 0)) (hn : z.natAbs = n) (x y : Value) :
    Zs w ((w1.setCell ⟨g, 0, none⟩ x).setCell ⟨g, 1, none⟩ y) (.agg #[.bool p, s]) z := by
  subst hp; subst hn
  exact ⟨s, rfl, h.put ht X hg x y⟩
theorem Zs.put {t : TypeId} {w w1 : World} {g : Nat} {a b v : Value} {z : Int} (ht : t ≠ 42) (X : Bx t w1 g a b) (hg : w.heap.size ≤ g) (h : Zs w w1 v z) (x y : Value) :
    Zs w ((w1.setCell ⟨g, 0, none⟩ x).setCell ⟨g, 1, none⟩ y) v z := by
  obtain ⟨s, h1, h2⟩ := h
  exact ⟨s, h1, h2.put ht X hg x y⟩
/-- The form of a number in its one form: what the walk needs. -/
theorem Zs.parts {w w' : World} {v : Value} {z : Int} (h : Zs w w' v z) : ∃ p A n c, v = .agg #[.bool p, .slice A n c] ∧ Hid (Zs w w' (.agg #[.bool p, .slice A n c]) z) := by
  have h' := h
  obtain ⟨s, rfl, h2⟩ := h
  obtain ⟨A, c, rfl, -, -⟩ := h2.1.slice
  exact ⟨_, A, _, c, rfl, h'⟩
set_option maxRecDepth 100000 in
theorem make_z {w : World} {L n : Nat} {s : Value} (b : Bool) (hs : Nm w L s n) (hL : L ≤ 274877906944) :
    Calls Tryd.prog 13 #[.bool b, s] w fun e w' => ∃ v, e = .returned v ∧ Zs w w' v (sg b n) := by
  have ht := fun W (hb : Below w.heap.size w W) => trim_nm (hs.keep hb) hL
  have HT := Lib.hid ht
  clear ht hs
  cases b
  all_goals
    go_enter Tryd.func13, Tryd.ntmps13
    go_wp2_with fail
    refine (HT.out _ (by go_grown)).mono ?_; rintro e w1 ⟨v1, rfl, h1⟩
    obtain ⟨A, c, rfl, -, -⟩ := h1.1.slice
    have X := (Bx.new 25 w (.bool false) (.slice none 0 0)).keep h1.2
    obtain ⟨la, hla⟩ : ∃ la, la = (dg WB n).length := ⟨_, rfl⟩
    rw [← hla] at h1 ⊢
    have hl0 : la = 0 ↔ n = 0 := by rw [hla]; exact ⟨fun h => (dg_eq_nil WB_one n).1 (List.eq_nil_of_length_eq_zero h), fun h => by rw [h, dg_zero]; rfl⟩
    obtain ⟨c0, c1, f0, f1⟩ := X.facts
    have HX := Lib.hid (And.intro X (And.intro (h1.out (below_al w _)) hl0))
    clear X h1 hl0 hla HT
    go_wp2_with fail
    refine ret_bx HX.out.1 (fun W d0 d1 => by simp [results, Tryd.results13, go_sem, d0, d1]) rfl ?_
    refine ⟨_, rfl, zs_ret int_word HX.out.1 (Nat.le_refl _) HX.out.2.1 ?_ (sg_abs _ _) _ _⟩
    have hl0 := HX.out.2.2
    first
    | exact (decide_eq_false (by simp [sg])).symm
    | (simp only [sg, if_true]; exact decide_eq_decide.2 (by omega))
theorem signZ_zero {b : Bool} {n : Nat} (h : n = 0) : signZ (sg b n) = 0 := by subst h; rw [sg_zero]; rfl
theorem signZ_neg {n : Nat} (h : n ≠ 0) : signZ (sg true n) = -1 := by simp [signZ, sg]; omega
theorem signZ_pos {n : Nat} (h : n ≠ 0) : signZ (sg false n) = 1 := by simp [signZ, sg]; omega
set_option maxRecDepth 100000 in
theorem sign_z {w : World} {L : Nat} {a : Value} {x : Int} (ha : Zn w L a x) (hL : L ≤ 274877906944) :
    Calls Tryd.prog 24 #[a] w fun e w' => e = .returned (.int .i64 (signZ x)) ∧ Below w.heap.size w w' := by
  obtain ⟨b, s, n, rfl, hs, rfl⟩ := ha
  have hm := fun W (hb : Below w.heap.size w W) => bits_nm (hs.keep hb) hL
  obtain ⟨k, hk⟩ : ∃ k, k = nb n := ⟨_, rfl⟩
  rw [← hk] at hm
  have hk0 : k = 0 ↔ n = 0 := by rw [hk]; exact nb_eq_zero
  have HM := Lib.hid hm
  clear hm hs hk
  by_cases h0 : n = 0
  · have h1 : k = 0 := hk0.2 h0
    have HS := Lib.hid (signZ_zero (b := b) h0)
    clear hk0 h0
    subst h1
    go_enter Tryd.func24, Tryd.ntmps24
    go_wp2_with fail
    refine (HM.out _ (by go_grown)).mono ?_; rintro e w1 ⟨rfl, hb⟩
    have HB := Lib.hid (below_trans (below_al w _) hb)
    clear hb HM
    go_wp2_with fail
    go_ret
    exact ⟨by rw [HS.out]; rfl, HB.out⟩
  · have h1 : (k : Int) ≠ 0 := by omega
    have HS := Lib.hid (And.intro (signZ_neg h0) (signZ_pos h0))
    clear hk0 h0
    cases b
    all_goals
      go_enter Tryd.func24, Tryd.ntmps24
      go_wp2_with fail
      refine (HM.out _ (by go_grown)).mono ?_; rintro e w1 ⟨rfl, hb⟩
      obtain ⟨c0, c1, f0, f1⟩ := ((Bx.new 25 w _ s).keep hb).facts
      have HB := Lib.hid (below_trans (below_al w _) hb)
      clear hb HM
      go_wp2_with fail
      go_ret
      first
      | exact ⟨by rw [HS.out.2]; rfl, HB.out⟩
      | exact ⟨by rw [HS.out.1]; rfl, HB.out⟩
end Go.Proofs.YtclaiidoomdklaaDoor
