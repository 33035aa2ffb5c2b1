/-
  zint: Cmp, Add, Sub, Mul.
-/
import Derived.Test.YtgbfpimdnmmfpaaGreatDoorZ1
import Derived.Deep.RegionHeld3
namespace Go.Proofs.YtgbfpimdnmmfpaaGreatDoor
open Go Go.RowKit Go.Proofs Pl
set_option linter.unusedVariables false

theorem pow_sum {B m n p q : Nat} (hB : 1 < B) (hm : m < B ^ p) (hn : n < B ^ q) : m + n < B ^ (p + q + 1) := by
  have h1 : B ^ p ≤ B ^ (p + q) := Nat.pow_le_pow_right (by omega) (by omega)
  have h2 : B ^ q ≤ B ^ (p + q) := Nat.pow_le_pow_right (by omega) (by omega)
  have h3 : B ^ (p + q) * 2 ≤ B ^ (p + q) * B := Nat.mul_le_mul_left _ hB
  rw [Nat.pow_succ]
  omega
theorem pow_mul {B m n p q : Nat} (hm : m < B ^ p) (hn : n < B ^ q) : m * n < B ^ (p + q) := by
  rw [Nat.pow_add]; exact Nat.mul_lt_mul'' hm hn
/-- A Make of what is new. -/
theorem make_rs (p : Bool) {L : Nat} (hL : L ≤ 274877906944) {n : Nat} (hn : n < WB ^ L) {w w1 : World} {s : Value} (h : Rs w w1 s n) (W : World) (hb : Below w1.heap.size w1 W) :
    Calls Tryz.prog 26 #[.bool p, s] W fun e w' => ∃ v, e = .returned v ∧ Zs w w' v (sg p n) ∧ Below W.heap.size W w' :=
  (make_z p ((h.nm hn).keep hb) hL).mono fun e w' ⟨v, he, hz⟩ => ⟨v, he, hz.from (below_trans h.2 hb), hz.below⟩
set_option maxRecDepth 100000 in
theorem add_eq {w : World} {L1 L2 m n : Nat} {s t : Value} (p q : Bool) (epq : p = q) (hs : Nm w L1 s m) (ht : Nm w L2 t n) (h1 : L1 ≤ 68719476736) (h2 : L2 ≤ 68719476736) :
    Calls Tryz.prog 32 #[.agg #[.bool p, s], .agg #[.bool q, t]] w fun e w' => ∃ v, e = .returned v ∧ Zs w w' v (sg p (m + n)) := by
  have hadd := fun W (hb : Below w.heap.size w W) => add_nm (hs.keep hb) (ht.keep hb) (by omega) (by omega)
  have hlt := pow_sum WB_one hs.lt ht.lt
  have hmk := fun w1 w2 v1 (hb : Below w.heap.size w w1) (h : Rs w1 w2 v1 (m + n)) => make_rs p (L := L1 + L2 + 1) (by omega) hlt (h.out hb)
  have HA := Lib.hid (And.intro hadd hmk)
  have N0 := new3 24 24 24 w (.bool p) s (.bool q) t (.bool false) (.slice none 0 0)
  have hpq : (p == q) = true := by simp [epq]
  clear hadd hmk hlt hs ht h1 h2 epq
  go_enter Tryz.func32, Tryz.ntmps32
  go_upto_region 2 with (fail)
  generalize ((w.alloc _).alloc _).alloc _ = W0 at N0 ⊢
  have HN := Lib.hid N0
  have HS0 := N0.ld
  clear N0 hpq
  go_region_held3 (fun W => W.cell? ⟨w.heap.size, 0, none⟩ = some (.bool p) ∧ W.cell? ⟨w.heap.size, 1, none⟩ = some s ∧ W.cell? ⟨w.heap.size + 1, 0, none⟩ = some (.bool q) ∧ W.cell? ⟨w.heap.size + 1, 1, none⟩ = some t) (first | exact HS0 | exact HS1 | exact HS2 | exact (H2.out.1.st _ _).ld)
    (first
      | (go_at_call 64; refine (HA.out.1 _ (by exact below_trans HN.out.2.2.2 (below_dr _ 1))).mono ?_; rintro e w1 ⟨v1, rfl, h1⟩; have N1 := (HN.out.drew 1).keep h1.2; have HS1 := N1.ld; have H1 := Lib.hid (And.intro N1 (HA.out.2 _ _ _ (below_trans HN.out.2.2.2 (below_dr _ 1)) h1)); clear N1 h1)
      | (go_at_call 26; refine (H1.out.2 _ (Below.refl _ _)).mono ?_; rintro e w2 ⟨v2, rfl, h2, hb2⟩; obtain ⟨pz, A, la, c, rfl, H2'⟩ := h2.parts; have N2 := H1.out.1.keep hb2; have HS2 := N2.ld; obtain ⟨k0, k1, k2, k3⟩ := N2.2.2.1.facts; have H2 := Lib.hid (And.intro N2 h2); clear N2 h2 H2' hb2))
  go_wp2_with fail
  refine ret_bx H2.out.1.2.2.1 (fun W d0 d1 => by simp [results, Tryz.results32, go_sem, d0, d1]) rfl ?_
  exact ⟨_, rfl, H2.out.2.put int_word H2.out.1.2.2.1 (by omega) _ _⟩
set_option maxRecDepth 100000 in
theorem add_ge {w : World} {L1 L2 m n : Nat} {s t : Value} (p q : Bool) (epq : q = !p) (hs : Nm w L1 s m) (ht : Nm w L2 t n) (h1 : L1 ≤ 68719476736) (hle : n ≤ m) :
    Calls Tryz.prog 32 #[.agg #[.bool p, s], .agg #[.bool q, t]] w fun e w' => ∃ v, e = .returned v ∧ Zs w w' v (sg p (m - n)) := by
  have hsub := fun W (hb : Below w.heap.size w W) => sub_nm (hs.keep hb) (ht.keep hb) (by omega)
  rw [show subErr m n = 0 from by simp [subErr]; omega] at hsub
  have hmk := fun w1 w2 v1 (hb : Below w.heap.size w w1) (h : Rs w1 w2 v1 (m - n)) => make_rs p (L := L1) (by omega) (Nat.lt_of_le_of_lt (Nat.sub_le _ _) hs.lt) (h.out hb)
  have HA := Lib.hid (And.intro hsub hmk)
  have hpq : (p == q) = false := by subst epq; cases p <;> rfl
  clear hsub hmk hs ht h1 hle epq
  go_enter Tryz.func32, Tryz.ntmps32
  go_wp2_with fail
  refine (HA.out.1 _ (by go_grown)).mono ?_; rintro e w1 ⟨v1, rfl, h1⟩
  have N1 := (new3 24 24 24 w (.bool p) s (.bool q) t (.bool false) (.slice none 0 0)).keep h1.2
  obtain ⟨c0, c1, c2, c3⟩ := N1.ld
  have H1 := Lib.hid (And.intro N1 (HA.out.2 _ _ _ (by go_grown) h1))
  clear N1 h1
  go_wp2_with fail
  refine (H1.out.2 _ (Below.refl _ _)).mono ?_; rintro e w2 ⟨v2, rfl, h2, hb2⟩
  obtain ⟨pz, A, la, c, rfl, H2'⟩ := h2.parts
  have N2 := H1.out.1.keep hb2
  obtain ⟨k0, k1, k2, k3⟩ := N2.2.2.1.facts
  have H2 := Lib.hid (And.intro N2 h2)
  clear N2 h2 H2' hb2 c0 c1 c2 c3
  go_wp2_with fail
  refine ret_bx H2.out.1.2.2.1 (fun W d0 d1 => by simp [results, Tryz.results32, go_sem, d0, d1]) rfl ?_
  exact ⟨_, rfl, H2.out.2.put int_word H2.out.1.2.2.1 (by omega) _ _⟩
set_option maxRecDepth 100000 in
theorem add_lt {w : World} {L1 L2 m n : Nat} {s t : Value} (p q : Bool) (epq : q = !p) (hs : Nm w L1 s m) (ht : Nm w L2 t n) (h1 : L1 ≤ 68719476736) (h2 : L2 ≤ 68719476736) (hlt : m < n) :
    Calls Tryz.prog 32 #[.agg #[.bool p, s], .agg #[.bool q, t]] w fun e w' => ∃ v, e = .returned v ∧ Zs w w' v (sg q (n - m)) := by
  have hsub := fun W (hb : Below w.heap.size w W) => sub_nm (hs.keep hb) (ht.keep hb) (by omega)
  rw [show subErr m n = 4 from by simp [subErr, hlt]] at hsub
  have hsub2 := fun W (hb : Below w.heap.size w W) => sub_nm (ht.keep hb) (hs.keep hb) (by omega)
  rw [show subErr n m = 0 from by simp [subErr]; omega] at hsub2
  have hmk := fun w1 w2 v1 (hb : Below w.heap.size w w1) (h : Rs w1 w2 v1 (n - m)) => make_rs q (L := L2) (by omega) (Nat.lt_of_le_of_lt (Nat.sub_le _ _) ht.lt) (h.out hb)
  have HA := Lib.hid (And.intro hsub (And.intro hsub2 hmk))
  have hpq : (p == q) = false := by subst epq; cases p <;> rfl
  clear hsub hsub2 hmk hs ht h1 h2 hlt epq
  go_enter Tryz.func32, Tryz.ntmps32
  go_wp2_with fail
  refine (HA.out.1 _ (by go_grown)).mono ?_; rintro e w1 ⟨v1, rfl, h1⟩
  have N1 := (new3 24 24 24 w (.bool p) s (.bool q) t (.bool false) (.slice none 0 0)).keep h1.2
  obtain ⟨c0, c1, c2, c3⟩ := N1.ld
  have H1 := Lib.hid N1
  clear N1 h1
  go_wp2_with fail
  refine (HA.out.2.1 _ H1.out.2.2.2).mono ?_; rintro e w2 ⟨v2, rfl, h2⟩
  have N2 := H1.out.keep h2.2
  have H2 := Lib.hid (And.intro N2 (HA.out.2.2 _ _ _ H1.out.2.2.2 h2))
  clear c0 c1 c2 c3
  obtain ⟨c0, c1, c2, c3⟩ := N2.ld
  clear N2 h2 H1 HA
  go_wp2_with fail
  refine (H2.out.2 _ (Below.refl _ _)).mono ?_; rintro e w3 ⟨v3, rfl, h3, hb3⟩
  obtain ⟨pz, A, la, c, rfl, H3'⟩ := h3.parts
  have N3 := H2.out.1.keep hb3
  obtain ⟨k0, k1, k2, k3⟩ := N3.2.2.1.facts
  have H3 := Lib.hid (And.intro N3 h3)
  clear N3 h3 H3' hb3 c0 c1 c2 c3 H2
  go_wp2_with fail
  refine ret_bx H3.out.1.2.2.1 (fun W d0 d1 => by simp [results, Tryz.results32, go_sem, d0, d1]) rfl ?_
  exact ⟨_, rfl, H3.out.2.put int_word H3.out.1.2.2.1 (by omega) _ _⟩
theorem add_z {w : World} {L1 L2 : Nat} {a b : Value} {x y : Int} (ha : Zn w L1 a x) (hb : Zn w L2 b y) (h1 : L1 ≤ 68719476736) (h2 : L2 ≤ 68719476736) :
    Calls Tryz.prog 32 #[a, b] w fun e w' => ∃ v, e = .returned v ∧ Zs w w' v (x + y) := by
  obtain ⟨p, s, m, rfl, hs, rfl⟩ := ha
  obtain ⟨q, t, n, rfl, ht, rfl⟩ := hb
  by_cases hpq : p = q
  · subst hpq
    rw [sg_add]
    exact add_eq p p rfl hs ht h1 h2
  · obtain rfl : q = !p := by cases p <;> cases q <;> simp_all
    by_cases hle : n ≤ m
    · rw [sg_sub p m n hle]; exact add_ge p _ rfl hs ht h1 hle
    · rw [sg_sub' p m n (by omega)]; exact add_lt p _ rfl hs ht h1 h2 (by omega)
theorem abs_add {x y : Int} {B p q : Nat} (hB : 1 < B) (hx : x.natAbs < B ^ p) (hy : y.natAbs < B ^ q) : (x + y).natAbs < B ^ (p + q + 1) :=
  Nat.lt_of_le_of_lt (Int.natAbs_add_le x y) (pow_sum hB hx hy)
theorem abs_sub {x y : Int} {B p q : Nat} (hB : 1 < B) (hx : x.natAbs < B ^ p) (hy : y.natAbs < B ^ q) : (x - y).natAbs < B ^ (p + q + 1) := by
  rw [Int.sub_eq_add_neg]; exact abs_add hB hx (by rw [Int.natAbs_neg]; exact hy)
theorem abs_mul {x y : Int} {B p q : Nat} (hx : x.natAbs < B ^ p) (hy : y.natAbs < B ^ q) : (x * y).natAbs < B ^ (p + q) := by
  rw [Int.natAbs_mul]; exact pow_mul hx hy
set_option maxRecDepth 100000 in
theorem sub_z {w : World} {L1 L2 : Nat} {a b : Value} {x y : Int} (ha : Zn w L1 a x) (hb : Zn w L2 b y) (h1 : L1 ≤ 68719476736) (h2 : L2 ≤ 68719476736) :
    Calls Tryz.prog 33 #[a, b] w fun e w' => ∃ v, e = .returned v ∧ Zs w w' v (x - y) := by
  have hn := fun W (hw : Below w.heap.size w W) => neg_z (hb.keep hw) (by omega)
  have hadd := fun w1 w2 v1 (hw : Below w.heap.size w w1) (h : Zs w1 w2 v1 (-y)) W (hw2 : Below w2.heap.size w2 W) =>
    (add_z (ha.keep (below_trans (below_trans hw h.below) hw2)) ((h.zn (L := L2) (by rw [Int.natAbs_neg]; exact hb.lt)).keep hw2) h1 h2).mono (R' := fun e w' => ∃ v, e = .returned v ∧ Zs w w' v (x - y) ∧ Below W.heap.size W w') fun e w' ⟨v, he, hz⟩ => ⟨v, he, by rw [Int.sub_eq_add_neg]; exact hz.from (below_trans (below_trans hw h.below) hw2), hz.below⟩
  have HA := Lib.hid (And.intro hn hadd)
  clear hn hadd h1 h2
  obtain ⟨p, s, m, rfl, -, -⟩ := ha
  obtain ⟨q, t, n, rfl, -, -⟩ := hb
  have N0 := new3 24 24 24 w (.bool p) s (.bool q) t (.bool false) (.slice none 0 0)
  have hpq : True := trivial
  go_enter Tryz.func33, Tryz.ntmps33
  go_upto_region 1 with (fail)
  generalize ((w.alloc _).alloc _).alloc _ = W0 at N0 ⊢
  have HN := Lib.hid N0
  have HS0 := N0.ld
  clear N0 hpq
  go_region_held3 (fun W => W.cell? ⟨w.heap.size, 0, none⟩ = some (.bool p) ∧ W.cell? ⟨w.heap.size, 1, none⟩ = some s ∧ W.cell? ⟨w.heap.size + 1, 0, none⟩ = some (.bool q) ∧ W.cell? ⟨w.heap.size + 1, 1, none⟩ = some t) (first | exact HS0 | exact HS1 | exact HS2 | exact (H2.out.1.st _ _).ld)
    (first
      | (go_at_call 27; refine (HA.out.1 _ (by exact below_trans HN.out.2.2.2 (below_dr _ 1))).mono ?_; rintro e w1 ⟨v1, rfl, h1⟩; have N1 := (HN.out.drew 1).keep h1.below; have HS1 := N1.ld; have H1 := Lib.hid (And.intro N1 (HA.out.2 _ _ _ (below_trans HN.out.2.2.2 (below_dr _ 1)) h1)); clear N1 h1)
      | (go_at_call 32; refine (H1.out.2 _ (Below.refl _ _)).mono ?_; rintro e w2 ⟨v2, rfl, h2, hb2⟩; obtain ⟨pz, A, la, c, rfl, H2'⟩ := h2.parts; have N2 := H1.out.1.keep hb2; have HS2 := N2.ld; obtain ⟨k0, k1, k2, k3⟩ := N2.2.2.1.facts; have H2 := Lib.hid (And.intro N2 h2); clear N2 h2 H2' hb2))
  go_wp2_with fail
  refine ret_bx H2.out.1.2.2.1 (fun W d0 d1 => by simp [results, Tryz.results33, go_sem, d0, d1]) rfl ?_
  exact ⟨_, rfl, H2.out.2.put int_word H2.out.1.2.2.1 (by omega) _ _⟩
set_option maxRecDepth 100000 in
theorem mul_z {w : World} {L1 L2 : Nat} {a b : Value} {x y : Int} (ha : Zn w L1 a x) (hb : Zn w L2 b y) (h1 : L1 ≤ 68719476736) (h2 : L2 ≤ 68719476736) :
    Calls Tryz.prog 34 #[a, b] w fun e w' => ∃ v, e = .returned v ∧ Zs w w' v (x * y) := by
  obtain ⟨p, s, m, rfl, hs, rfl⟩ := ha
  obtain ⟨q, t, n, rfl, ht, rfl⟩ := hb
  rw [sg_mul]
  obtain ⟨r, hr⟩ : ∃ r, (p != q) = r := ⟨_, rfl⟩
  rw [hr]
  have hr : (!(p == q)) = r := hr
  have hmul := fun W (hb : Below w.heap.size w W) => mul_nm (hs.keep hb) (ht.keep hb) (by omega) (by omega)
  have hlt := pow_mul hs.lt ht.lt
  have hmk := fun w1 w2 v1 (hb : Below w.heap.size w w1) (h : Rs w1 w2 v1 (m * n)) => make_rs r (L := L1 + L2) (by omega) hlt (h.out hb)
  have HA := Lib.hid (And.intro hmul hmk)
  have N0 := new3 24 24 24 w (.bool p) s (.bool q) t (.bool false) (.slice none 0 0)
  have hpq : True := trivial
  clear hmul hmk hs ht h1 h2 hlt
  go_enter Tryz.func34, Tryz.ntmps34
  go_upto_region 1 with (fail)
  generalize ((w.alloc _).alloc _).alloc _ = W0 at N0 ⊢
  have HN := Lib.hid N0
  have HS0 := N0.ld
  clear N0 hpq
  go_region_held3 (fun W => W.cell? ⟨w.heap.size, 0, none⟩ = some (.bool p) ∧ W.cell? ⟨w.heap.size, 1, none⟩ = some s ∧ W.cell? ⟨w.heap.size + 1, 0, none⟩ = some (.bool q) ∧ W.cell? ⟨w.heap.size + 1, 1, none⟩ = some t) (first | exact HS0 | exact HS1 | exact HS2 | exact (H2.out.1.st _ _).ld)
    (first
      | (go_at_call 66; refine (HA.out.1 _ (by exact below_trans HN.out.2.2.2 (below_dr _ 1))).mono ?_; rintro e w1 ⟨v1, rfl, h1⟩; have N1 := (HN.out.drew 1).keep h1.2; have HS1 := N1.ld; have H1 := Lib.hid (And.intro N1 (HA.out.2 _ _ _ (below_trans HN.out.2.2.2 (below_dr _ 1)) h1)); clear N1 h1)
      | (go_at_call 26; refine (H1.out.2 _ (Below.refl _ _)).mono ?_; rintro e w2 ⟨v2, rfl, h2, hb2⟩; obtain ⟨pz, A, la, c, rfl, H2'⟩ := h2.parts; have N2 := H1.out.1.keep hb2; have HS2 := N2.ld; obtain ⟨k0, k1, k2, k3⟩ := N2.2.2.1.facts; have H2 := Lib.hid (And.intro N2 h2); clear N2 h2 H2' hb2))
  go_wp2_with fail
  refine ret_bx H2.out.1.2.2.1 (fun W d0 d1 => by simp [results, Tryz.results34, go_sem, d0, d1]) rfl ?_
  exact ⟨_, rfl, H2.out.2.put int_word H2.out.1.2.2.1 (by omega) _ _⟩
end Go.Proofs.YtgbfpimdnmmfpaaGreatDoor
