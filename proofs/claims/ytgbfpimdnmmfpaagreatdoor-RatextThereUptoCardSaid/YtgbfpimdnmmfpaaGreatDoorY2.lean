/-
  The document's whole numbers: Add, Sub, Mul, Cmp.
-/
import Derived.Test.YtgbfpimdnmmfpaaGreatDoorY1
namespace Go.Proofs.YtgbfpimdnmmfpaaGreatDoor
namespace I
open Go Go.RowKit Go.Proofs Pl
set_option linter.unusedVariables false

set_option maxRecDepth 100000 in
theorem add_ge {w : World} {L1 L2 m n : Nat} {s t : Value} (p q : Bool) (epq : q = !p) (hs : Dn w L1 s m) (ht : Dn w L2 t n) (h1 : L1 ≤ 1073741824) (h2 : L2 ≤ 1073741824) (hle : n ≤ m) :
    Calls Tryz.prog 35 #[.agg #[.bool p, s], .agg #[.bool q, t]] w fun e w' => ∃ v, e = .returned v ∧ Zd w' (L1 + L2 + 1) v (sg p (m - n)) ∧ Below w.heap.size w w' := by
  have hcmp := fun W (hb : Below w.heap.size w W) => cmp_dn (hs.keep hb) (ht.keep hb) h1 h2
  have hz : ¬ cmpN m n < 0 := by unfold cmpN; split <;> (try split) <;> omega
  obtain ⟨z, ez⟩ : ∃ z, cmpN m n = z := ⟨_, rfl⟩
  rw [ez] at hcmp hz
  have hsub := fun W (hb : Below w.heap.size w W) => sub_dn (hs.keep hb) (ht.keep hb) h1 (by omega)
  have hmk := fun w1 v1 (hb : Below w.heap.size w w1) (h : Dn w1 L1 v1 (m - n)) => form_d p (h.mono (show L1 ≤ L1 + L2 + 1 by omega)) (by omega)
  have HC := Lib.hid hcmp
  have HA := Lib.hid (And.intro hsub hmk)
  have N0 := new3 33 33 33 w (.bool p) s (.bool q) t (.bool false) (.slice none 0 0)
  have hpq : (p == q) = false := by subst epq; cases p <;> rfl
  clear hcmp hsub hmk hs ht h1 h2 epq hle ez
  go_enter Tryz.func35, Tryz.ntmps35
  go_wp2_with fail
  refine (HC.out _ (by go_grown)).mono ?_; rintro e w' ⟨rfl, rfl⟩
  go_upto_region 4 with (fail)
  generalize ((w.alloc _).alloc _).alloc _ = W0 at N0 ⊢
  have HN := Lib.hid N0
  have HS0 := (N0.drew 1).ld
  have HS1 := HS0
  have HS2 := HS0
  have HS3 := HS0
  clear N0 hpq
  go_region_held3 (fun W => W.cell? ⟨w.heap.size, 0, none⟩ = some (.bool p) ∧ W.cell? ⟨w.heap.size, 1, none⟩ = some s ∧ W.cell? ⟨w.heap.size + 1, 0, none⟩ = some (.bool q) ∧ W.cell? ⟨w.heap.size + 1, 1, none⟩ = some t) (first | with_reducible exact HS1 | with_reducible exact HS2 | with_reducible exact HS3 | exact HS0)
    (first
      | (go_at_call 51; refine H1.out.2.mono ?_; rintro e w2 ⟨v2, rfl, h2, hb2⟩; obtain ⟨pz, A, la, c, rfl, H2'⟩ := h2.parts; have N2 := H1.out.1.keep hb2; have HS2 := N2.ld; have HS3 := (N2.st (.bool pz) (.slice A la c)).ld; obtain ⟨k0, k1, k2, k3⟩ := N2.2.2.1.facts; have H2 := Lib.hid (And.intro N2 h2); clear N2 h2 H2' hb2)
      | (go_at_call 69; refine (HA.out.1 _ (by exact below_trans HN.out.2.2.2 (below_dr _ 1))).mono ?_; rintro e w1 ⟨v1, rfl, h1, hb1⟩; have N1 := (HN.out.drew 1).keep hb1; have HS1 := N1.ld; have H1 := Lib.hid (And.intro N1 (HA.out.2 _ _ (below_trans HN.out.2.2.2 (below_trans (below_dr _ 1) hb1)) h1)); clear N1 h1 hb1))
  go_wp2_with fail
  refine ret_bx H2.out.1.2.2.1 (fun W d0 d1 => by simp [results, Tryz.results35, go_sem, d0, d1]) rfl ?_
  exact ⟨_, rfl, H2.out.2.put H2.out.1.2.2.1 _ _, (H2.out.1.st _ _).2.2.2⟩
set_option maxRecDepth 100000 in
theorem add_lt {w : World} {L1 L2 m n : Nat} {s t : Value} (p q : Bool) (epq : q = !p) (hs : Dn w L1 s m) (ht : Dn w L2 t n) (h1 : L1 ≤ 1073741824) (h2 : L2 ≤ 1073741824) (hle : m < n) :
    Calls Tryz.prog 35 #[.agg #[.bool p, s], .agg #[.bool q, t]] w fun e w' => ∃ v, e = .returned v ∧ Zd w' (L1 + L2 + 1) v (sg q (n - m)) ∧ Below w.heap.size w w' := by
  have hcmp := fun W (hb : Below w.heap.size w W) => cmp_dn (hs.keep hb) (ht.keep hb) h1 h2
  rw [show cmpN m n = -1 from by simp [cmpN, hle]] at hcmp
  have hsub := fun W (hb : Below w.heap.size w W) => sub_dn (ht.keep hb) (hs.keep hb) h2 (by omega)
  have hmk := fun w1 v1 (hb : Below w.heap.size w w1) (h : Dn w1 L2 v1 (n - m)) => form_d q (h.mono (show L2 ≤ L1 + L2 + 1 by omega)) (by omega)
  have HC := Lib.hid hcmp
  have HA := Lib.hid (And.intro hsub hmk)
  have N0 := new3 33 33 33 w (.bool p) s (.bool q) t (.bool false) (.slice none 0 0)
  have hpq : (p == q) = false := by subst epq; cases p <;> rfl
  clear hcmp hsub hmk hs ht h1 h2 epq hle
  go_enter Tryz.func35, Tryz.ntmps35
  go_wp2_with fail
  refine (HC.out _ (by go_grown)).mono ?_; rintro e w' ⟨rfl, rfl⟩
  go_upto_region 5 with (fail)
  generalize ((w.alloc _).alloc _).alloc _ = W0 at N0 ⊢
  have HN := Lib.hid N0
  have HS0 := (N0.drew 1).ld
  have HS1 := HS0
  have HS2 := HS0
  have HS3 := HS0
  clear N0 hpq
  go_region_held3 (fun W => W.cell? ⟨w.heap.size, 0, none⟩ = some (.bool p) ∧ W.cell? ⟨w.heap.size, 1, none⟩ = some s ∧ W.cell? ⟨w.heap.size + 1, 0, none⟩ = some (.bool q) ∧ W.cell? ⟨w.heap.size + 1, 1, none⟩ = some t) (first | with_reducible exact HS1 | with_reducible exact HS2 | with_reducible exact HS3 | exact HS0)
    (first
      | (go_at_call 51; refine H1.out.2.mono ?_; rintro e w2 ⟨v2, rfl, h2, hb2⟩; obtain ⟨pz, A, la, c, rfl, H2'⟩ := h2.parts; have N2 := H1.out.1.keep hb2; have HS2 := N2.ld; have HS3 := (N2.st (.bool pz) (.slice A la c)).ld; obtain ⟨k0, k1, k2, k3⟩ := N2.2.2.1.facts; have H2 := Lib.hid (And.intro N2 h2); clear N2 h2 H2' hb2)
      | (go_at_call 69; refine (HA.out.1 _ (by exact below_trans HN.out.2.2.2 (below_dr _ 1))).mono ?_; rintro e w1 ⟨v1, rfl, h1, hb1⟩; have N1 := (HN.out.drew 1).keep hb1; have HS1 := N1.ld; have H1 := Lib.hid (And.intro N1 (HA.out.2 _ _ (below_trans HN.out.2.2.2 (below_trans (below_dr _ 1) hb1)) h1)); clear N1 h1 hb1))
  go_wp2_with fail
  refine ret_bx H2.out.1.2.2.1 (fun W d0 d1 => by simp [results, Tryz.results35, go_sem, d0, d1]) rfl ?_
  exact ⟨_, rfl, H2.out.2.put H2.out.1.2.2.1 _ _, (H2.out.1.st _ _).2.2.2⟩
theorem add_d {w : World} {L1 L2 : Nat} {a b : Value} {x y : Int} (ha : Zd w L1 a x) (hb : Zd w L2 b y) (h1 : L1 ≤ 1073741824) (h2 : L2 ≤ 1073741824) :
    Calls Tryz.prog 35 #[a, b] w fun e w' => ∃ v, e = .returned v ∧ Zd w' (L1 + L2 + 1) v (x + y) ∧ Below w.heap.size w w' := by
  obtain ⟨p, s, m, rfl, hs, rfl⟩ := ha.open
  obtain ⟨q, t, n, rfl, ht, rfl⟩ := hb.open
  by_cases hpq : p = q
  · subst hpq
    rw [sg_add]
    exact add_eq p p rfl hs ht h1 h2
  · obtain rfl : q = !p := by cases p <;> cases q <;> simp_all
    by_cases hle : n ≤ m
    · rw [sg_sub p m n hle]; exact add_ge p _ rfl hs ht h1 h2 hle
    · rw [sg_sub' p m n (by omega)]; exact add_lt p _ rfl hs ht h1 h2 (by omega)
set_option maxRecDepth 100000 in
theorem sub_d {w : World} {L1 L2 : Nat} {a b : Value} {x y : Int} (ha : Zd w L1 a x) (hb : Zd w L2 b y) (h1 : L1 ≤ 1073741824) (h2 : L2 ≤ 1073741824) :
    Calls Tryz.prog 36 #[a, b] w fun e w' => ∃ v, e = .returned v ∧ Zd w' (L1 + L2 + 1) v (x - y) ∧ Below w.heap.size w w' := by
  have hn := fun W (hw : Below w.heap.size w W) => neg_d (hb.keep hw) (by omega)
  have hadd := fun w1 v1 (hw : Below w.heap.size w w1) (h : Zd w1 L2 v1 (-y)) => add_d (ha.keep hw) h h1 h2
  have HA := Lib.hid (And.intro hn hadd)
  clear hn hadd h1 h2
  rw [Int.sub_eq_add_neg]
  obtain ⟨p, s, m, rfl, -, -⟩ := ha.open
  obtain ⟨q, t, n, rfl, -, -⟩ := hb.open
  have N0 := new3 33 33 33 w (.bool p) s (.bool q) t (.bool false) (.slice none 0 0)
  have hpq : True := trivial
  clear ha hb
  go_enter Tryz.func36, Tryz.ntmps36
  go_upto_region 1 with (fail)
  generalize ((w.alloc _).alloc _).alloc _ = W0 at N0 ⊢
  have HN := Lib.hid N0
  have HS0 := (N0.drew 1).ld
  have HS1 := HS0
  have HS2 := HS0
  have HS3 := HS0
  clear N0 hpq
  go_region_held3 (fun W => W.cell? ⟨w.heap.size, 0, none⟩ = some (.bool p) ∧ W.cell? ⟨w.heap.size, 1, none⟩ = some s ∧ W.cell? ⟨w.heap.size + 1, 0, none⟩ = some (.bool q) ∧ W.cell? ⟨w.heap.size + 1, 1, none⟩ = some t) (first | with_reducible exact HS1 | with_reducible exact HS2 | with_reducible exact HS3 | exact HS0)
    (first
      | (go_at_call 35; refine H1.out.2.mono ?_; rintro e w2 ⟨v2, rfl, h2, hb2⟩; obtain ⟨pz, A, la, c, rfl, H2'⟩ := h2.parts; have N2 := H1.out.1.keep hb2; have HS2 := N2.ld; have HS3 := (N2.st (.bool pz) (.slice A la c)).ld; obtain ⟨k0, k1, k2, k3⟩ := N2.2.2.1.facts; have H2 := Lib.hid (And.intro N2 h2); clear N2 h2 H2' hb2)
      | (go_at_call 28; refine (HA.out.1 _ (by exact below_trans HN.out.2.2.2 (below_dr _ 1))).mono ?_; rintro e w1 ⟨v1, rfl, h1, hb1⟩; have N1 := (HN.out.drew 1).keep hb1; have HS1 := N1.ld; have H1 := Lib.hid (And.intro N1 (HA.out.2 _ _ (below_trans HN.out.2.2.2 (below_trans (below_dr _ 1) hb1)) h1)); clear N1 h1 hb1))
  go_wp2_with fail
  refine ret_bx H2.out.1.2.2.1 (fun W d0 d1 => by simp [results, Tryz.results36, go_sem, d0, d1]) rfl ?_
  exact ⟨_, rfl, H2.out.2.put H2.out.1.2.2.1 _ _, (H2.out.1.st _ _).2.2.2⟩
set_option maxRecDepth 100000 in
theorem mul_d {w : World} {L1 L2 : Nat} {a b : Value} {x y : Int} (ha : Zd w L1 a x) (hb : Zd w L2 b y) (h1 : L1 ≤ 1073741824) (h2 : L2 ≤ 1073741824) :
    Calls Tryz.prog 37 #[a, b] w fun e w' => ∃ v, e = .returned v ∧ Zd w' (L1 + L2) v (x * y) ∧ Below w.heap.size w w' := by
  obtain ⟨p, s, m, rfl, hs, rfl⟩ := ha.open
  obtain ⟨q, t, n, rfl, ht, rfl⟩ := hb.open
  rw [sg_mul]
  obtain ⟨r, hr⟩ : ∃ r, (p != q) = r := ⟨_, rfl⟩
  rw [hr]
  have hr : (!(p == q)) = r := hr
  have hmul := fun W (hb : Below w.heap.size w W) => mul_dn (hs.keep hb) (ht.keep hb) h1 h2
  have hmk := fun w1 v1 (hb : Below w.heap.size w w1) (h : Dn w1 (L1 + L2) v1 (m * n)) => form_d r h (by omega)
  have HA := Lib.hid (And.intro hmul hmk)
  have N0 := new3 33 33 33 w (.bool p) s (.bool q) t (.bool false) (.slice none 0 0)
  have hpq : True := trivial
  clear hmul hmk hs ht h1 h2 ha hb
  go_enter Tryz.func37, Tryz.ntmps37
  go_upto_region 1 with (fail)
  generalize ((w.alloc _).alloc _).alloc _ = W0 at N0 ⊢
  have HN := Lib.hid N0
  have HS0 := (N0.drew 1).ld
  have HS1 := HS0
  have HS2 := HS0
  have HS3 := HS0
  clear N0 hpq
  go_region_held3 (fun W => W.cell? ⟨w.heap.size, 0, none⟩ = some (.bool p) ∧ W.cell? ⟨w.heap.size, 1, none⟩ = some s ∧ W.cell? ⟨w.heap.size + 1, 0, none⟩ = some (.bool q) ∧ W.cell? ⟨w.heap.size + 1, 1, none⟩ = some t) (first | with_reducible exact HS1 | with_reducible exact HS2 | with_reducible exact HS3 | exact HS0)
    (first
      | (go_at_call 51; refine H1.out.2.mono ?_; rintro e w2 ⟨v2, rfl, h2, hb2⟩; obtain ⟨pz, A, la, c, rfl, H2'⟩ := h2.parts; have N2 := H1.out.1.keep hb2; have HS2 := N2.ld; have HS3 := (N2.st (.bool pz) (.slice A la c)).ld; obtain ⟨k0, k1, k2, k3⟩ := N2.2.2.1.facts; have H2 := Lib.hid (And.intro N2 h2); clear N2 h2 H2' hb2)
      | (go_at_call 70; refine (HA.out.1 _ (by exact below_trans HN.out.2.2.2 (below_dr _ 1))).mono ?_; rintro e w1 ⟨v1, rfl, h1, hb1⟩; have N1 := (HN.out.drew 1).keep hb1; have HS1 := N1.ld; have H1 := Lib.hid (And.intro N1 (HA.out.2 _ _ (below_trans HN.out.2.2.2 (below_trans (below_dr _ 1) hb1)) h1)); clear N1 h1 hb1))
  go_wp2_with fail
  refine ret_bx H2.out.1.2.2.1 (fun W d0 d1 => by simp [results, Tryz.results37, go_sem, d0, d1]) rfl ?_
  exact ⟨_, rfl, H2.out.2.put H2.out.1.2.2.1 _ _, (H2.out.1.st _ _).2.2.2⟩
set_option maxRecDepth 100000 in
theorem cmp_d {w : World} {L1 L2 : Nat} {a b : Value} {x y : Int} (ha : Zd w L1 a x) (hb : Zd w L2 b y) (h1 : L1 ≤ 1073741824) (h2 : L2 ≤ 1073741824) :
    Calls Tryz.prog 31 #[a, b] w fun e w' => e = .returned (.int .i64 (cmpZ x y)) ∧ Below w.heap.size w w' := by
  have hs := fun W (hw : Below w.heap.size w W) => sub_d (ha.keep hw) (hb.keep hw) h1 h2
  have hg := fun w1 v1 (h : Zd w1 (L1 + L2 + 1) v1 (x - y)) => sign_d h
  simp only [cmpZ_sub] at hg
  have HA := Lib.hid (And.intro hs hg)
  obtain ⟨p, s, m, rfl, -, -⟩ := ha.open
  obtain ⟨q, t, n, rfl, -, -⟩ := hb.open
  clear hs hg ha hb h1 h2
  go_enter Tryz.func31, Tryz.ntmps31
  go_wp2_with fail
  refine (HA.out.1 _ (by go_grown)).mono ?_; rintro e w1 ⟨v1, rfl, h1, hb1⟩
  have HM := Lib.hid (And.intro (HA.out.2 _ _ h1) (below_trans (below_trans (below_al w _) (below_al _ _)) hb1))
  clear h1 HA hb1
  go_wp2_with fail
  refine HM.out.1.mono ?_; rintro e w2 ⟨rfl, hb2⟩
  have HB := Lib.hid (below_trans HM.out.2 hb2)
  clear hb2 HM
  go_wp2_with fail
  go_ret
  exact ⟨rfl, HB.out⟩
end I
end Go.Proofs.YtgbfpimdnmmfpaaGreatDoor
