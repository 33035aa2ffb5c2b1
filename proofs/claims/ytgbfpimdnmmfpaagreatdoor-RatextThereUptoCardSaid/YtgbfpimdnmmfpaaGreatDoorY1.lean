/-
  The document's whole numbers: form, Of, To, Sign, Neg, Add, Sub, Mul, Cmp.
-/
import Derived.Test.YtgbfpimdnmmfpaaGreatDoorBy
import Derived.Test.YtgbfpimdnmmfpaaGreatDoorZ3
import Derived.Deep.RegionHeld3
namespace Go.Proofs.YtgbfpimdnmmfpaaGreatDoor
namespace I
open Go Go.RowKit Go.Proofs Pl
set_option linter.unusedVariables false

/-- v reads the whole number z in the document's one form. -/
def Zd (w : World) (L : Nat) (v : Value) (z : Int) : Prop := ∃ s, v = .agg #[.bool (decide (z < 0)), s] ∧ Dn w L s z.natAbs
section
variable {w w' : World} {L L' n : Nat} {v s : Value} {z : Int} {b : Bool}
theorem Zd.keep (h : Zd w L v z) (hb : Below w.heap.size w w') : Zd w' L v z := by
  obtain ⟨s, h1, h2⟩ := h
  exact ⟨s, h1, h2.keep hb⟩
theorem Zd.mono (h : Zd w L v z) (hL : L ≤ L') : Zd w L' v z := by
  obtain ⟨s, h1, h2⟩ := h
  exact ⟨s, h1, h2.mono hL⟩
theorem Zd.lt (h : Zd w L v z) : z.natAbs < TB ^ L := by
  obtain ⟨s, h1, h2⟩ := h
  exact h2.2
theorem Zd.thin (h : Zd w L v z) (hz : z.natAbs < TB ^ L') : Zd w L' v z := by
  obtain ⟨s, h1, h2⟩ := h
  exact ⟨s, h1, h2.1, hz⟩
theorem Zd.put {t : TypeId} {g : Nat} {p0 : Bool} {A0 : Option Addr} {l0 c0 : Nat} (h : Zd w L v z) (X : Bx t w g (.bool p0) (.slice A0 l0 c0)) (x y : Value) : Zd ((w.setCell ⟨g, 0, none⟩ x).setCell ⟨g, 1, none⟩ y) L v z := by
  obtain ⟨s, h1, h2⟩ := h
  exact ⟨s, h1, h2.put X x y⟩
theorem zd_of {t : TypeId} {g : Nat} {p0 p : Bool} {A0 : Option Addr} {l0 c0 : Nat} (h : Dn w L s n) (X : Bx t w g (.bool p0) (.slice A0 l0 c0)) (hp : p = decide (z < 0)) (hn : z.natAbs = n) (x y : Value) : Zd ((w.setCell ⟨g, 0, none⟩ x).setCell ⟨g, 1, none⟩ y) L (.agg #[.bool p, s]) z := by
  subst hp; subst hn
  exact ⟨s, rfl, h.put X x y⟩
theorem Zd.parts (h : Zd w L v z) : ∃ p A n c, v = .agg #[.bool p, .slice A n c] ∧ Hid (Zd w L (.agg #[.bool p, .slice A n c]) z) := by
  have h' := h
  obtain ⟨s, rfl, h2⟩ := h
  obtain ⟨⟨A, c, rfl, -⟩, -⟩ := h2
  exact ⟨_, A, _, c, rfl, h'⟩
theorem Zd.open (h : Zd w L v z) : ∃ p s n, v = .agg #[.bool p, s] ∧ Dn w L s n ∧ z = sg p n := by
  obtain ⟨s, h1, h2⟩ := h
  exact ⟨_, s, _, h1, h2, (sg_form z).symm⟩
theorem Dn.thin (h : Dn w L v n) (hz : n < TB ^ L') : Dn w L' v n := ⟨h.1, hz⟩
end
theorem Dn.trim {w : World} {L n : Nat} {s : Value} (hs : Dn w L s n) (hL : L ≤ 1099511627776) : Calls Tryz.prog 89 #[s] w fun e w' => ∃ v, e = .returned v ∧ Dn w' L v n ∧ Below w.heap.size w w' := by
  refine (trim_nm hs.nm hL).mono ?_
  rintro e w' ⟨v, he, h⟩
  exact ⟨v, he, h.dn hs.2, h.2⟩
set_option maxRecDepth 100000 in
theorem form_d {w : World} {L n : Nat} {s : Value} (b : Bool) (hs : Dn w L s n) (hL : L ≤ 1099511627776) :
    Calls Tryz.prog 51 #[.bool b, s] w fun e w' => ∃ v, e = .returned v ∧ Zd w' L v (sg b n) ∧ Below w.heap.size w w' := by
  have ht := fun W (hb : Below w.heap.size w W) => (hs.keep hb).trim hL
  have HT := Lib.hid ht
  clear ht hs
  cases b
  all_goals
    go_enter Tryz.func51, Tryz.ntmps51
    go_wp2_with fail
    refine (HT.out _ (by go_grown)).mono ?_; rintro e w1 ⟨v1, rfl, h1, hb1⟩
    have h1' := h1
    obtain ⟨⟨A, c, rfl, -⟩, -⟩ := h1
    have X := (Bx.new 33 w (.bool false) (.slice none 0 0)).keep hb1
    obtain ⟨la, hla⟩ : ∃ la, la = (dg TB n).length := ⟨_, rfl⟩
    rw [← hla] at h1' ⊢
    have hl0 : la = 0 ↔ n = 0 := by rw [hla]; exact ⟨fun h => (dg_eq_nil TB_one n).1 (List.eq_nil_of_length_eq_zero h), fun h => by rw [h, dg_zero]; rfl⟩
    obtain ⟨c0, c1, f0, f1⟩ := X.facts
    have HX := Lib.hid (And.intro X (And.intro h1' (And.intro hl0 (below_trans (below_al w _) hb1))))
    clear X h1' hl0 hla HT hb1
    go_wp2_with fail
    refine ret_bx HX.out.1 (fun W d0 d1 => by simp [results, Tryz.results51, go_sem, d0, d1]) rfl ?_
    refine ⟨_, rfl, zd_of HX.out.2.1 HX.out.1 ?_ (sg_abs _ _) _ _, HX.out.1.below HX.out.2.2.2 (Nat.le_refl _) (Nat.le_refl _) _ _⟩
    have hl0 := HX.out.2.2.1
    first
    | exact (decide_eq_false (by simp [sg])).symm
    | (simp only [sg, if_true]; exact decide_eq_decide.2 (by omega))
set_option maxRecDepth 100000 in
theorem of_d {w : World} {L : Nat} {a : Value} {x : Int} (ha : Zn w L a x) (hL : L ≤ 1048576) :
    Calls Tryz.prog 16 #[a] w fun e w' => ∃ v, e = .returned v ∧ Zd w' (5 * L) v x ∧ Below w.heap.size w w' := by
  obtain ⟨p, s, n, rfl, ⟨xs, hs, hl, hv⟩, rfl⟩ := ha
  have hof := fun W (hb : Below w.heap.size w W) => of_dn (hs.keep hb) hl hL hv
  have hf := fun w1 v1 (h : Dn w1 (5 * L) v1 n) => form_d p h (by omega)
  have HF := Lib.hid (And.intro hof hf)
  clear hof hf hs hl hv
  have N0 := new2 24 33 w (.bool p) s (.bool false) (.slice none 0 0)
  go_enter Tryz.func16, Tryz.ntmps16
  go_upto_region 1 with (fail)
  generalize (w.alloc _).alloc _ = W0 at N0 ⊢
  have HN := Lib.hid N0
  have HS0 := (N0.drew 1).ld
  have HS1 := HS0
  have HS2 := HS0
  have HS3 := HS0
  clear N0
  go_region_held3 (fun W => W.cell? ⟨w.heap.size, 0, none⟩ = some (.bool p) ∧ W.cell? ⟨w.heap.size, 1, none⟩ = some s) (first | with_reducible exact HS1 | with_reducible exact HS2 | with_reducible exact HS3 | exact HS0)
    (first
      | (go_at_call 51; refine H1.out.2.mono ?_; rintro e w2 ⟨v2, rfl, h2, hb2⟩; obtain ⟨pz, A, la, c, rfl, H2'⟩ := h2.parts; have N2 := H1.out.1.keep hb2; have HS2 := N2.ld; have HS3 := (N2.st (.bool pz) (.slice A la c)).ld; obtain ⟨k0, k1, k2, k3⟩ := N2.2.1.facts; have H2 := Lib.hid (And.intro N2 h2); clear N2 h2 H2' hb2)
      | (go_at_call 52; refine (HF.out.1 _ (by exact below_trans HN.out.2.2 (below_dr _ 1))).mono ?_; rintro e w1 ⟨v1, rfl, h1, hb1⟩; have N1 := (HN.out.drew 1).keep hb1; have HS1 := N1.ld; have H1 := Lib.hid (And.intro N1 (HF.out.2 _ _ h1)); clear N1 h1 hb1))
  go_wp2_with fail
  refine ret_bx H2.out.1.2.1 (fun W d0 d1 => by simp [results, Tryz.results16, go_sem, d0, d1]) rfl ?_
  exact ⟨_, rfl, H2.out.2.put H2.out.1.2.1 _ _, (H2.out.1.st _ _).2.2⟩
set_option maxRecDepth 100000 in
theorem to_d {w : World} {L K : Nat} {a : Value} {x : Int} (ha : Zd w L a x) (hL : L ≤ 1073741824) (hx : x.natAbs < WB ^ K) (hK : K ≤ 1048576) :
    Calls Tryz.prog 20 #[a] w fun e w' => ∃ v, e = .returned v ∧ Zo w' v x ∧ Below w.heap.size w w' := by
  obtain ⟨s, rfl, hs⟩ := ha
  have hto := fun W (hb : Below w.heap.size w W) => to_dn (hs.keep hb) hL hx hK
  have HT := Lib.hid hto
  obtain ⟨p, hp⟩ : ∃ b, b = decide (x < 0) := ⟨_, rfl⟩
  have HB := Lib.hid hp
  rw [← hp]
  clear hto hs hx hp
  have N0 := new2 33 24 w (.bool p) s (.bool false) (.slice none 0 0)
  go_enter Tryz.func20, Tryz.ntmps20
  go_upto_region 1 with (fail)
  generalize (w.alloc _).alloc _ = W0 at N0 ⊢
  have HN := Lib.hid N0
  have HS0 := (N0.drew 1).ld
  have HS1 := HS0
  have HS2 := HS0
  have HS3 := HS0
  clear N0
  go_region_held3 (fun W => W.cell? ⟨w.heap.size, 0, none⟩ = some (.bool p) ∧ W.cell? ⟨w.heap.size, 1, none⟩ = some s) (first | with_reducible exact HS1 | with_reducible exact HS2 | with_reducible exact HS3 | exact HS0)
    (first
      | (go_at_call 55; refine (HT.out _ (by exact below_trans HN.out.2.2 (below_dr _ 1))).mono ?_; rintro e w1 ⟨v1, rfl, h1, hb1⟩; have h1' := h1; obtain ⟨A, c, rfl, h1⟩ := h1; obtain ⟨la, hla⟩ : ∃ la, la = (dg WB x.natAbs).length := ⟨_, rfl⟩; rw [← hla] at h1' ⊢; have N1 := (HN.out.drew 1).keep hb1; have HS1 := N1.ld; have HS2 := (N1.st (.bool p) (.slice A la c)).ld; obtain ⟨k0, k1, k2, k3⟩ := N1.2.1.facts; have H1 := Lib.hid (And.intro N1 h1'); clear N1 h1 hb1 h1' hla))
  go_wp2_with fail
  refine ret_bx H1.out.1.2.1 (fun W d0 d1 => by simp [results, Tryz.results20, go_sem, d0, d1]) rfl ?_
  exact ⟨_, rfl, ⟨_, by rw [← HB.out], H1.out.2.put H1.out.1.2.1 _ _⟩, (H1.out.1.st _ _).2.2⟩
set_option maxRecDepth 100000 in
theorem neg_d {w : World} {L : Nat} {a : Value} {x : Int} (ha : Zd w L a x) (hL : L ≤ 1099511627776) :
    Calls Tryz.prog 28 #[a] w fun e w' => ∃ v, e = .returned v ∧ Zd w' L v (-x) ∧ Below w.heap.size w w' := by
  obtain ⟨b, s, n, rfl, hs, rfl⟩ := ha.open
  have hm := fun W (hb : Below w.heap.size w W) => form_d (!b) (hs.keep hb) hL
  simp only [sg_not] at hm
  have HM := Lib.hid hm
  clear hm hs
  go_enter Tryz.func28, Tryz.ntmps28
  go_wp2_with fail
  refine (HM.out _ (by go_grown)).mono ?_; rintro e w2 ⟨v2, rfl, h2, hb2⟩
  obtain ⟨p, A, la, c, rfl, H2⟩ := h2.parts
  have N2 := (new2 33 33 w (.bool b) s (.bool false) (.slice none 0 0)).keep hb2
  obtain ⟨c0, c1, f0, f1⟩ := N2.2.1.facts
  have HX := Lib.hid (And.intro N2 h2)
  clear N2 h2 H2 HM hb2
  go_wp2_with fail
  refine ret_bx HX.out.1.2.1 (fun W d0 d1 => by simp [results, Tryz.results28, go_sem, d0, d1]) rfl ?_
  exact ⟨_, rfl, HX.out.2.put HX.out.1.2.1 _ _, (HX.out.1.st _ _).2.2⟩
set_option maxRecDepth 100000 in
theorem sign_d {w : World} {L : Nat} {a : Value} {x : Int} (ha : Zd w L a x) :
    Calls Tryz.prog 17 #[a] w fun e w' => e = .returned (.int .i64 (signZ x)) ∧ Below w.heap.size w w' := by
  obtain ⟨s, rfl, hs⟩ := ha
  obtain ⟨⟨A, c, rfl, -, -, -, -⟩, -⟩ := hs
  obtain ⟨la, hla⟩ : ∃ la, la = (dg TB x.natAbs).length := ⟨_, rfl⟩
  rw [← hla]
  have hl0 : la = 0 ↔ x.natAbs = 0 := by rw [hla]; exact ⟨fun h => (dg_eq_nil TB_one _).1 (List.eq_nil_of_length_eq_zero h), fun h => by rw [h, dg_zero]; rfl⟩
  rcases sign_is x with ⟨e1, h1⟩ | ⟨e1, h1⟩ | ⟨e1, h1⟩
  · rw [decide_eq_true h1, e1]
    have hpos : ¬ (la : Int) = 0 := by omega
    clear hla hl0 h1 e1
    go_enter Tryz.func17, Tryz.ntmps17
    go_wp2_with fail
    go_ret
    exact ⟨rfl, by go_grown⟩
  · have hla0 : la = 0 := hl0.2 (by omega)
    rw [e1]
    obtain ⟨b, hb⟩ : ∃ b, b = decide (x < 0) := ⟨_, rfl⟩
    rw [← hb]
    clear hla hl0 h1 e1 hb
    subst hla0
    go_enter Tryz.func17, Tryz.ntmps17
    go_wp2_with fail
    go_ret
    exact ⟨rfl, by go_grown⟩
  · rw [decide_eq_false (by omega), e1]
    have hpos : ¬ (la : Int) = 0 := by omega
    clear hla hl0 h1 e1
    go_enter Tryz.func17, Tryz.ntmps17
    go_wp2_with fail
    go_ret
    exact ⟨rfl, by go_grown⟩
set_option maxRecDepth 100000 in
theorem add_eq {w : World} {L1 L2 m n : Nat} {s t : Value} (p q : Bool) (epq : p = q) (hs : Dn w L1 s m) (ht : Dn w L2 t n) (h1 : L1 ≤ 1073741824) (h2 : L2 ≤ 1073741824) :
    Calls Tryz.prog 35 #[.agg #[.bool p, s], .agg #[.bool q, t]] w fun e w' => ∃ v, e = .returned v ∧ Zd w' (L1 + L2 + 1) v (sg p (m + n)) ∧ Below w.heap.size w w' := by
  have hadd := fun W (hb : Below w.heap.size w W) => add_dn (hs.keep hb) (ht.keep hb) h1 h2
  have hmk := fun w1 v1 (hb : Below w.heap.size w w1) (h : Dn w1 (L1 + L2 + 1) v1 (m + n)) => form_d p h (by omega)
  have HA := Lib.hid (And.intro hadd hmk)
  have N0 := new3 33 33 33 w (.bool p) s (.bool q) t (.bool false) (.slice none 0 0)
  have hpq : (p == q) = true := by simp [epq]
  clear hadd hmk hs ht h1 h2 epq
  go_enter Tryz.func35, Tryz.ntmps35
  go_upto_region 2 with (fail)
  generalize ((w.alloc _).alloc _).alloc _ = W0 at N0 ⊢
  have HN := Lib.hid N0
  have HS0 := (N0.drew 1).ld
  have HS1 := HS0
  have HS2 := HS0
  have HS3 := HS0
  clear N0 hpq
  go_region_held3 (fun W => W.cell? ⟨w.heap.size, 0, none⟩ = some (.bool p) ∧ W.cell? ⟨w.heap.size, 1, none⟩ = some s ∧ W.cell? ⟨w.heap.size + 1, 0, none⟩ = some (.bool q) ∧ W.cell? ⟨w.heap.size + 1, 1, none⟩ = some t) (first | with_reducible exact HS1 | with_reducible exact HS2 | with_reducible exact HS3 | exact HS0)
    (first
      | (go_at_call 51; refine H1.out.2.mono ?_; rintro e w2 ⟨v2, rfl, h2, hb2⟩; obtain ⟨pz, A, la, c, rfl, H2'⟩ := h2.parts; have N2 := H1.out.1.keep hb2; have HS2 := N2.ld; have HS3 := (N2.st (.bool pz) (.slice A la c)).ld; obtain ⟨k0, k1, k2, k3⟩ := N2.2.2.1.facts; have H2 := Lib.hid (And.intro N2 h2); clear N2 h2 H2' hb2)
      | (go_at_call 67; refine (HA.out.1 _ (by exact below_trans HN.out.2.2.2 (below_dr _ 1))).mono ?_; rintro e w1 ⟨v1, rfl, h1, hb1⟩; have N1 := (HN.out.drew 1).keep hb1; have HS1 := N1.ld; have H1 := Lib.hid (And.intro N1 (HA.out.2 _ _ (below_trans HN.out.2.2.2 (below_trans (below_dr _ 1) hb1)) h1)); clear N1 h1 hb1))
  go_wp2_with fail
  refine ret_bx H2.out.1.2.2.1 (fun W d0 d1 => by simp [results, Tryz.results35, go_sem, d0, d1]) rfl ?_
  exact ⟨_, rfl, H2.out.2.put H2.out.1.2.2.1 _ _, (H2.out.1.st _ _).2.2.2⟩
end I
end Go.Proofs.YtgbfpimdnmmfpaaGreatDoor
