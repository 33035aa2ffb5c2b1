/-
  zint: DivFloor.
-/
import Derived.Test.YtgbfpimdnmmfpaaGreatDoorZ3
import Derived.Test.YtgbfpimdnmmfpaaGreatDoorZ5
namespace Go.Proofs.YtgbfpimdnmmfpaaGreatDoor
open Go Go.RowKit Go.Proofs Pl
set_option linter.unusedVariables false

theorem fdiv_lt {b c : Bool} {m n B p : Nat} (hB : 1 < B) (h0 : n ≠ 0) (hm : m < B ^ p) : (Int.fdiv (sg b m) (sg c n)).natAbs < B ^ (p + 1) := by
  have hle : m / n ≤ m := Nat.div_le_self _ _
  have h3 : B ^ p * 2 ≤ B ^ p * B := Nat.mul_le_mul_left _ hB
  have h4 : 0 < B ^ p := Nat.pow_pos (by omega)
  rw [Nat.pow_succ]
  by_cases hbc : b = c
  · subst hbc
    rw [fdiv_same, Int.natAbs_natCast]; omega
  · obtain rfl : c = !b := by cases b <;> cases c <;> simp_all
    rw [fdiv_unlike b m n h0]
    obtain ⟨k, hk⟩ : ∃ k, k = m / n := ⟨_, rfl⟩
    rw [← hk] at hle ⊢
    clear hk
    split <;> omega
/-- Four new variables. -/
def New4 (w W : World) (a b c d : Value) : Prop :=
  Bx 24 W w.heap.size a b ∧ Bx 24 W (w.heap.size + 1) c d ∧ (∃ e f, Bx 24 W (w.heap.size + 1 + 1) e f) ∧ (∃ e f, Bx 24 W (w.heap.size + 1 + 1 + 1) e f) ∧ Below w.heap.size w W
theorem new4 (w : World) (a b c d e f g h : Value) : New4 w ((((w.alloc (.cells #[a, b] 24)).alloc (.cells #[c, d] 24)).alloc (.cells #[e, f] 24)).alloc (.cells #[g, h] 24)) a b c d :=
  ⟨(((Bx.new _ w a b).alloc _).alloc _).alloc _, ((Bx.new1 _ w _ c d).alloc _).alloc _, ⟨e, f, (Bx.new2 _ w _ _ e f).alloc _⟩, ⟨g, h, Bx.new3 _ w _ _ _ g h⟩, by go_grown⟩
theorem New4.keep {w W W' : World} {a b c d : Value} (h : New4 w W a b c d) (hb : Below W.heap.size W W') : New4 w W' a b c d := by
  obtain ⟨h1, h2, ⟨e, f, h3⟩, ⟨g, k, h4⟩, h5⟩ := h
  exact ⟨h1.keep hb, h2.keep hb, ⟨e, f, h3.keep hb⟩, ⟨g, k, h4.keep hb⟩, below_trans h5 hb⟩
theorem New4.ld {w W : World} {a b c d : Value} (h : New4 w W a b c d) :
    W.cell? ⟨w.heap.size, 0, none⟩ = some a ∧ W.cell? ⟨w.heap.size, 1, none⟩ = some b ∧ W.cell? ⟨w.heap.size + 1, 0, none⟩ = some c ∧ W.cell? ⟨w.heap.size + 1, 1, none⟩ = some d :=
  ⟨h.1.facts.1, h.1.facts.2.1, h.2.1.facts.1, h.2.1.facts.2.1⟩
set_option maxRecDepth 100000 in
theorem divFloor_by0 {w : World} {L1 L2 : Nat} {a b : Value} {x y : Int} (ha : Zn w L1 a x) (hb : Zn w L2 b y) (h0 : y = 0) :
    Calls Tryz.prog 15 #[a, b] w fun e w' => e = .returned (.tuple #[.agg #[.bool false, .slice none 0 0], .agg #[.bool false, .slice none 0 0], .int .i64 3]) ∧ Below w.heap.size w w' := by
  obtain ⟨p, s, m, rfl, hs, rfl⟩ := ha
  obtain ⟨q, t, n, rfl, ht, rfl⟩ := hb
  have hn : n = 0 := by have := congrArg Int.natAbs h0; rw [sg_abs] at this; exact this
  have hd := fun W (hb : Below w.heap.size w W) => divMod_by0 (hs.keep hb) (ht.keep hb) hn
  have HD := Lib.hid hd
  clear hd hs ht hn h0
  go_enter Tryz.func15, Tryz.ntmps15
  go_wp2_with fail
  refine (HD.out _ (by go_grown)).mono ?_; rintro e w1 ⟨rfl, rfl⟩
  go_wp2_with fail
  refine bodyPost_ret (by simp [results, Tryz.results15, go_sem]; try rfl) rfl ?_
  exact ⟨rfl, by go_grown⟩
/-- The variables of DivFloor: the two numbers, the two results, the quotient. -/
def Dv (w W : World) (a b c d : Value) (g : Nat) (x y : Value) : Prop := New4 w W a b c d ∧ Bx 24 W g x y ∧ w.heap.size + 1 + 1 + 1 < g
section
variable {w W W' : World} {a b c d x y u v : Value} {g : Nat}
theorem Dv.keep (h : Dv w W a b c d g x y) (hb : Below W.heap.size W W') : Dv w W' a b c d g x y := ⟨h.1.keep hb, h.2.1.keep hb, h.2.2⟩
theorem Dv.below (h : Dv w W a b c d g x y) : Below w.heap.size w W := h.1.2.2.2.2
theorem Dv.ld (h : Dv w W a b c d g x y) : W.cell? ⟨w.heap.size, 0, none⟩ = some a ∧ W.cell? ⟨w.heap.size, 1, none⟩ = some b ∧ W.cell? ⟨w.heap.size + 1, 0, none⟩ = some c ∧ W.cell? ⟨w.heap.size + 1, 1, none⟩ = some d ∧ W.cell? ⟨g, 0, none⟩ = some x ∧ W.cell? ⟨g, 1, none⟩ = some y :=
  ⟨h.1.1.facts.1, h.1.1.facts.2.1, h.1.2.1.facts.1, h.1.2.1.facts.2.1, h.2.1.facts.1, h.2.1.facts.2.1⟩
theorem Dv.set2 (h : Dv w W a b c d g x y) (u v : Value) : Dv w ((W.setCell ⟨w.heap.size + 1 + 1, 0, none⟩ u).setCell ⟨w.heap.size + 1 + 1, 1, none⟩ v) a b c d g x y := by
  obtain ⟨⟨h1, h2, ⟨e, f, h3⟩, ⟨k, l, h4⟩, h5⟩, h6, h7⟩ := h
  exact ⟨⟨h1.other2 (by omega) _ _, h2.other2 (by omega) _ _, ⟨_, _, h3.set u v⟩, ⟨_, _, h4.other2 (by omega) _ _⟩, h3.below h5 (by omega) (Nat.le_refl _) _ _⟩, h6.other2 (by omega) _ _, h7⟩
theorem Dv.set3 (h : Dv w W a b c d g x y) (u v : Value) : Dv w ((W.setCell ⟨w.heap.size + 1 + 1 + 1, 0, none⟩ u).setCell ⟨w.heap.size + 1 + 1 + 1, 1, none⟩ v) a b c d g x y := by
  obtain ⟨⟨h1, h2, ⟨e, f, h3⟩, ⟨k, l, h4⟩, h5⟩, h6, h7⟩ := h
  exact ⟨⟨h1.other2 (by omega) _ _, h2.other2 (by omega) _ _, ⟨_, _, h3.other2 (by omega) _ _⟩, ⟨_, _, h4.set u v⟩, h4.below h5 (by omega) (Nat.le_refl _) _ _⟩, h6.other2 (by omega) _ _, h7⟩
theorem Dv.setq (h : Dv w W a b c d g x y) (u v : Value) : Dv w ((W.setCell ⟨g, 0, none⟩ u).setCell ⟨g, 1, none⟩ v) a b c d g u v := by
  obtain ⟨⟨h1, h2, ⟨e, f, h3⟩, ⟨k, l, h4⟩, h5⟩, h6, h7⟩ := h
  exact ⟨⟨h1.other2 (by omega) _ _, h2.other2 (by omega) _ _, ⟨_, _, h3.other2 (by omega) _ _⟩, ⟨_, _, h4.other2 (by omega) _ _⟩, h6.below h5 (by omega) (Nat.le_refl _) _ _⟩, h6.set u v, h7⟩
theorem ret_dv {P : Program} {fn : Func} {R : Ending → World → Prop} {act : Act} {u0 u1 v0 v1 : Value} (D : Dv w W a b c d g x y)
    (hr : ∀ W : World, W.cell? ⟨w.heap.size + 1 + 1, 0, none⟩ = some u0 → W.cell? ⟨w.heap.size + 1 + 1, 1, none⟩ = some u1 → W.cell? ⟨w.heap.size + 1 + 1 + 1, 0, none⟩ = some v0 → W.cell? ⟨w.heap.size + 1 + 1 + 1, 1, none⟩ = some v1 → (results fn act.tmps).run P W = .ok (.tuple #[.agg #[u0, u1], .agg #[v0, v1], .int .i64 0]) W) (hd : act.defers = [])
    (hR : ∀ W', Hid (∀ (z : Value) (k : Int), (Zs w W z k → Zs w W' z k)) → R (.returned (.tuple #[.agg #[u0, u1], .agg #[v0, v1], .int .i64 0])) W') :
    bodyPost P fn R .ret act ((((W.setCell ⟨w.heap.size + 1 + 1, 0, none⟩ u0).setCell ⟨w.heap.size + 1 + 1, 1, none⟩ u1).setCell ⟨w.heap.size + 1 + 1 + 1, 0, none⟩ v0).setCell ⟨w.heap.size + 1 + 1 + 1, 1, none⟩ v1) := by
  obtain ⟨⟨h1, h2, ⟨e, f, h3⟩, ⟨k, l, h4⟩, h5⟩, h6, h7⟩ := D
  have X2 := (h3.set u0 u1).other2 (k := w.heap.size + 1 + 1 + 1) (by omega) v0 v1
  have X3' := h4.other2 (k := w.heap.size + 1 + 1) (by omega) u0 u1
  have X3 := X3'.set v0 v1
  exact bodyPost_ret (hr _ X2.facts.1 X2.facts.2.1 X3.facts.1 X3.facts.2.1) hd (hR _ (fun z k hz => (hz.put int_word h3 (by omega) u0 u1).put int_word X3' (by omega) v0 v1))
theorem Dv.box2 (h : Dv w W a b c d g x y) : ∃ e f, Bx 24 W (w.heap.size + 1 + 1) e f := h.1.2.2.1
theorem Dv.box3 (h : Dv w W a b c d g x y) : ∃ e f, Bx 24 W (w.heap.size + 1 + 1 + 1) e f := h.1.2.2.2.1
end
/-- What the last lines of DivFloor call. -/
def LastOf (w W : World) (a b q : Value) (x y z : Int) : Prop :=
  ∀ W1, Below W.heap.size W W1 → Hid (Calls Tryz.prog 34 #[q, b] W1 fun e w2 => ∃ v, e = .returned v ∧ Below W1.heap.size W1 w2 ∧ Hid (∀ W2, W2 = w2 → Calls Tryz.prog 33 #[a, v] W2 fun e w3 => ∃ r, e = .returned r ∧ Zs W2 w3 r (x - z * y)))
theorem lastOf {w W : World} {L1 L2 : Nat} {a b q : Value} {x y z : Int} (ha : Zn w L1 a x) (hb : Zn w L2 b y) (h1 : L1 ≤ 17179869184) (h2 : L2 ≤ 17179869184) (hq : Zs w W q z) (hz : z.natAbs < WB ^ (L1 + 1)) : LastOf w W a b q x y z := by
  intro W1 hW
  refine (mul_z ((hq.zn hz).keep hW) (hb.keep (below_trans hq.below hW)) (by omega) (by omega)).mono ?_
  rintro e w2 ⟨v, he, hv⟩
  refine ⟨v, he, hv.below, ?_⟩
  rintro W2 rfl
  exact sub_z (ha.keep (below_trans (below_trans hq.below hW) hv.below)) (hv.zn (L := L1 + 1 + L2) (abs_mul hz hb.lt)) (by omega) (by omega)
set_option maxRecDepth 100000 in
theorem divFloor_nz {w : World} {L1 L2 m n : Nat} {s t : Value} {p q r : Bool} (hs : Nm w L1 s m) (ht : Nm w L2 t n) (h1 : L1 ≤ 17179869184) (h2 : L2 ≤ 17179869184) (h0 : n ≠ 0) (hr : (!(p == q)) = r) (hz : r = false ∨ m % n = 0) :
    Calls Tryz.prog 15 #[.agg #[.bool p, s], .agg #[.bool q, t]] w fun e w' => ∃ v u, e = .returned (.tuple #[v, u, .int .i64 0]) ∧ Zs w w' v (sg r (m / n)) ∧ Zs w w' u (sg p m - sg r (m / n) * sg q n) := by
  have hd := fun W (hb : Below w.heap.size w W) => divMod_nm (hs.keep hb) (ht.keep hb) (by omega) h0
  have hlt := Nat.lt_of_le_of_lt (Nat.div_le_self m n) hs.lt
  have hmk := fun w1 w2 v1 (hb : Below w.heap.size w w1) (h : Rs w1 w2 v1 (m / n)) => make_rs r (L := L1) (by omega) hlt (h.out hb)
  have hlast := fun W v3 (hq : Zs w W v3 (sg r (m / n))) => lastOf (show Zn w L1 (.agg #[.bool p, s]) (sg p m) from ⟨_, _, _, rfl, hs, rfl⟩) (show Zn w L2 (.agg #[.bool q, t]) (sg q n) from ⟨_, _, _, rfl, ht, rfl⟩) h1 h2 hq (by rw [sg_abs]; exact Nat.lt_of_lt_of_le hlt (Nat.pow_le_pow_right WB_pos (by omega)))
  have HA := Lib.hid (And.intro hd (And.intro hmk hlast))
  have HZ := Lib.hid hz
  clear hd hmk hs ht h1 h2 h0 hz hlt hlast
  go_enter Tryz.func15, Tryz.ntmps15
  go_wp2_with fail
  refine (HA.out.1 _ (by go_grown)).mono ?_; rintro e w1 ⟨v1, v2, rfl, h1, h2⟩
  have N1 := (new4 w (.bool p) s (.bool q) t (.bool false) (.slice none 0 0) (.bool false) (.slice none 0 0)).keep h1.2
  obtain ⟨c0, c1, c2, c3⟩ := N1.ld
  obtain ⟨A2, k2, rfl, -, -⟩ := h2.1.slice
  obtain ⟨lr, hlr⟩ : ∃ lr, lr = (dg WB (m % n)).length := ⟨_, rfl⟩
  have hl0 : r = false ∨ r = true ∧ ¬ (0 : Int) < (lr : Int) := by
    cases r
    · exact .inl rfl
    · rcases HZ.out with h | h
      · cases h
      · right; rw [hlr, h, dg_zero]; simp
  rw [← hlr]
  have H1 := Lib.hid (And.intro N1 (HA.out.2.1 _ _ _ (by go_grown) h1))
  clear N1 h1 h2 hlr HZ
  go_wp2_with fail
  refine (H1.out.2 _ (Below.refl _ _)).mono ?_; rintro e w2 ⟨v3, rfl, h2, hb2⟩
  obtain ⟨pz, A, la, c, rfl, H2'⟩ := h2.parts
  have N2 := H1.out.1.keep hb2
  have N3 : Dv w (w2.alloc (.cells #[.bool pz, .slice A la c] 24)) (.bool p) s (.bool q) t w2.heap.size (.bool pz) (.slice A la c) := ⟨N2.keep (below_al _ _), Bx.new _ _ _ _, by obtain ⟨-, -, -, ⟨e, f, h⟩, -⟩ := N2; exact h.lt⟩
  have HQ := h2.then (below_al w2 (.cells #[.bool pz, .slice A la c] 24))
  clear c0 c1 c2 c3
  have H2 := Lib.hid (And.intro N3 (And.intro HQ (HA.out.2.2 _ _ HQ)))
  clear N2 N3 h2 H2' hb2 H1 HQ HA
  go_upto_region 5 with (fail)
  obtain ⟨g, hg⟩ : ∃ g, g = w2.heap.size := ⟨_, rfl⟩
  generalize w2.alloc _ = W3 at H2 ⊢
  rw [← hg] at H2 ⊢
  obtain ⟨c0, c1, c2, c3, c4, c5⟩ := H2.out.1.ld
  clear hg
  have HS0 := H2.out.1.ld
  have HS1 := HS0
  have HS2 := HS0
  have HS3 := HS0
  have HS4 := HS0
  rcases hl0 with hl0 | ⟨hl0, hl1⟩
  · subst hl0
    go_upto_region 7 with (fail)
    go_region_held3 (fun W => W.cell? ⟨w.heap.size, 0, none⟩ = some (.bool p) ∧ W.cell? ⟨w.heap.size, 1, none⟩ = some s ∧ W.cell? ⟨w.heap.size + 1, 0, none⟩ = some (.bool q) ∧ W.cell? ⟨w.heap.size + 1, 1, none⟩ = some t ∧ W.cell? ⟨g, 0, none⟩ = some (.bool pz) ∧ W.cell? ⟨g, 1, none⟩ = some (.slice A la c)) (first | with_reducible exact HS1 | with_reducible exact HS2 | with_reducible exact HS3 | with_reducible exact HS4 | exact HS0)
      (first
        | (go_at_call 34; refine (H2.out.2.2 _ (by exact below_dr _ 1)).out.mono ?_; rintro e w4 ⟨v4, rfl, hb4, h4⟩; have HS1 := (H2.out.1.keep (below_trans (below_dr _ 1) hb4)).ld; have K1 := Lib.hid (And.intro (H2.out.1.keep (below_trans (below_dr _ 1) hb4)) (And.intro h4 (below_trans (below_dr _ 1) hb4))); clear hb4 h4)
        | (go_at_call 33; refine (K1.out.2.1.out _ rfl).mono ?_; rintro e w5 ⟨v5, rfl, h5⟩; obtain ⟨pu, A5, l5, k5, rfl, H5⟩ := h5.parts; have D5 := K1.out.1.keep h5.below; have HS2 := D5.ld; have HS3 := (D5.set2 (.bool pz) (.slice A la c)).ld; have HS4 := ((D5.set2 (.bool pz) (.slice A la c)).set3 (.bool pu) (.slice A5 l5 k5)).ld; obtain ⟨e2, f2, X2⟩ := D5.box2; obtain ⟨x0, x1, x2, x3⟩ := X2.facts; obtain ⟨e3, f3, X3⟩ := (D5.set2 (.bool pz) (.slice A la c)).box3; obtain ⟨y0, y1, y2, y3⟩ := X3.facts; have K2 := Lib.hid (And.intro D5 (And.intro h5 (below_trans K1.out.2.2 h5.below))); clear D5 h5 X2 X3))
    clear c0 c1 c2 c3 c4 c5 x0 x1 x2 x3 y0 y1 y2 y3 HS0 HS1 HS2 HS3 HS4
    go_wp2_with fail
    refine ret_dv K2.out.1 (fun W d0 d1 d2 d3 => by simp [results, Tryz.results15, go_sem, d0, d1, d2, d3]) rfl (fun W' hW => ?_)
    exact ⟨_, _, rfl, hW.out _ _ (H2.out.2.1.then K2.out.2.2), hW.out _ _ (K2.out.2.1.from (below_trans H2.out.1.below K1.out.2.2))⟩
  · subst hl0
    go_upto_region 7 with (fail)
    go_region_held3 (fun W => W.cell? ⟨w.heap.size, 0, none⟩ = some (.bool p) ∧ W.cell? ⟨w.heap.size, 1, none⟩ = some s ∧ W.cell? ⟨w.heap.size + 1, 0, none⟩ = some (.bool q) ∧ W.cell? ⟨w.heap.size + 1, 1, none⟩ = some t ∧ W.cell? ⟨g, 0, none⟩ = some (.bool pz) ∧ W.cell? ⟨g, 1, none⟩ = some (.slice A la c)) (first | with_reducible exact HS1 | with_reducible exact HS2 | with_reducible exact HS3 | with_reducible exact HS4 | exact HS0)
      (first
        | (go_at_call 34; refine (H2.out.2.2 _ (by exact below_dr _ 1)).out.mono ?_; rintro e w4 ⟨v4, rfl, hb4, h4⟩; have HS1 := (H2.out.1.keep (below_trans (below_dr _ 1) hb4)).ld; have K1 := Lib.hid (And.intro (H2.out.1.keep (below_trans (below_dr _ 1) hb4)) (And.intro h4 (below_trans (below_dr _ 1) hb4))); clear hb4 h4)
        | (go_at_call 33; refine (K1.out.2.1.out _ rfl).mono ?_; rintro e w5 ⟨v5, rfl, h5⟩; obtain ⟨pu, A5, l5, k5, rfl, H5⟩ := h5.parts; have D5 := K1.out.1.keep h5.below; have HS2 := D5.ld; have HS3 := (D5.set2 (.bool pz) (.slice A la c)).ld; have HS4 := ((D5.set2 (.bool pz) (.slice A la c)).set3 (.bool pu) (.slice A5 l5 k5)).ld; obtain ⟨e2, f2, X2⟩ := D5.box2; obtain ⟨x0, x1, x2, x3⟩ := X2.facts; obtain ⟨e3, f3, X3⟩ := (D5.set2 (.bool pz) (.slice A la c)).box3; obtain ⟨y0, y1, y2, y3⟩ := X3.facts; have K2 := Lib.hid (And.intro D5 (And.intro h5 (below_trans K1.out.2.2 h5.below))); clear D5 h5 X2 X3))
    clear c0 c1 c2 c3 c4 c5 x0 x1 x2 x3 y0 y1 y2 y3 HS0 HS1 HS2 HS3 HS4
    go_wp2_with fail
    refine ret_dv K2.out.1 (fun W d0 d1 d2 d3 => by simp [results, Tryz.results15, go_sem, d0, d1, d2, d3]) rfl (fun W' hW => ?_)
    exact ⟨_, _, rfl, hW.out _ _ (H2.out.2.1.then K2.out.2.2), hW.out _ _ (K2.out.2.1.from (below_trans H2.out.1.below K1.out.2.2))⟩
set_option maxRecDepth 100000 in
set_option maxHeartbeats 2000000 in
theorem divFloor_one {w : World} {L1 L2 m n : Nat} {s t : Value} {p q : Bool} (hs : Nm w L1 s m) (ht : Nm w L2 t n) (h1 : L1 ≤ 17179869184) (h2 : L2 ≤ 17179869184) (h0 : n ≠ 0) (hr : (!(p == q)) = true) (hz : m % n ≠ 0) (ez : Int.fdiv (sg p m) (sg q n) = sg true (m / n) - 1) :
    Calls Tryz.prog 15 #[.agg #[.bool p, s], .agg #[.bool q, t]] w fun e w' => ∃ v u, e = .returned (.tuple #[v, u, .int .i64 0]) ∧ Zs w w' v (Int.fdiv (sg p m) (sg q n)) ∧ Zs w w' u (sg p m - Int.fdiv (sg p m) (sg q n) * sg q n) := by
  have hd := fun W (hb : Below w.heap.size w W) => divMod_nm (hs.keep hb) (ht.keep hb) (by omega) h0
  have hlt := Nat.lt_of_le_of_lt (Nat.div_le_self m n) hs.lt
  have hmk := fun w1 w2 v1 (hb : Below w.heap.size w w1) (h : Rs w1 w2 v1 (m / n)) => make_rs true (L := L1) (by omega) hlt (h.out hb)
  have hlast := fun W v3 (hq : Zs w W v3 (Int.fdiv (sg p m) (sg q n))) => lastOf (show Zn w L1 (.agg #[.bool p, s]) (sg p m) from ⟨_, _, _, rfl, hs, rfl⟩) (show Zn w L2 (.agg #[.bool q, t]) (sg q n) from ⟨_, _, _, rfl, ht, rfl⟩) h1 h2 hq (fdiv_lt WB_one h0 hs.lt)
  have hone := fun W => of_z (w := W) (z := 1) (by unfold Small64; omega)
  have hsub := fun W W1 W2 v1 v2 (hq : Zs w W v1 (sg true (m / n))) (hb : Below W.heap.size W W1) (h1 : Zs W1 W2 v2 1) => sub_z ((hq.zn (L := L1) (by rw [sg_abs]; exact hlt)).keep (below_trans hb h1.below)) (h1.zn (L := 1) (by rw [Nat.pow_one, WB_eq]; decide)) (by omega) (by decide)
  rw [← ez] at hsub
  have HA := Lib.hid (And.intro hd (And.intro hmk (And.intro hlast (And.intro hone hsub))))
  have HZ := Lib.hid hz
  clear hd hmk hs ht h1 h2 h0 hz hlt hlast hone hsub ez
  go_enter Tryz.func15, Tryz.ntmps15
  go_wp2_with fail
  refine (HA.out.1 _ (by go_grown)).mono ?_; rintro e w1 ⟨v1, v2, rfl, h1, h2⟩
  have N1 := (new4 w (.bool p) s (.bool q) t (.bool false) (.slice none 0 0) (.bool false) (.slice none 0 0)).keep h1.2
  obtain ⟨c0, c1, c2, c3⟩ := N1.ld
  obtain ⟨A2, k2, rfl, -, -⟩ := h2.1.slice
  obtain ⟨lr, hlr⟩ : ∃ lr, lr = (dg WB (m % n)).length := ⟨_, rfl⟩
  have hl0 : (0 : Int) < (lr : Int) := by
    have : lr ≠ 0 := fun h => HZ.out ((dg_eq_nil WB_one _).1 (List.eq_nil_of_length_eq_zero (hlr ▸ h)))
    omega
  rw [← hlr]
  have H1 := Lib.hid (And.intro N1 (HA.out.2.1 _ _ _ (by go_grown) h1))
  clear N1 h1 h2 hlr HZ
  go_wp2_with fail
  refine (H1.out.2 _ (Below.refl _ _)).mono ?_; rintro e w2 ⟨v3, rfl, h2, hb2⟩
  obtain ⟨pz, A, la, c, rfl, H2'⟩ := h2.parts
  have N2 := H1.out.1.keep hb2
  have N3 : Dv w (w2.alloc (.cells #[.bool pz, .slice A la c] 24)) (.bool p) s (.bool q) t w2.heap.size (.bool pz) (.slice A la c) := ⟨N2.keep (below_al _ _), Bx.new _ _ _ _, by obtain ⟨-, -, -, ⟨e, f, h⟩, -⟩ := N2; exact h.lt⟩
  have HQ := h2.then (below_al w2 (.cells #[.bool pz, .slice A la c] 24))
  clear c0 c1 c2 c3
  have H2 := Lib.hid (And.intro N3 HQ)
  clear N2 N3 h2 H2' hb2 H1 HQ
  go_upto_region 5 with (fail)
  obtain ⟨g, hg⟩ : ∃ g, g = w2.heap.size := ⟨_, rfl⟩
  generalize w2.alloc _ = W3 at H2 ⊢
  rw [← hg] at H2 ⊢
  obtain ⟨c0, c1, c2, c3, c4, c5⟩ := H2.out.1.ld
  clear hg
  have HS0 := H2.out.1.ld
  have HS1 := HS0
  have HS2 := HS0
  have HS3 := HS0
  have HS4 := HS0
  go_upto_region 6 with (fail)
  go_region_with (first
    | (go_at_call 38; refine (HA.out.2.2.2.1 _).mono ?_; rintro e w4 ⟨v4, rfl, h4⟩; have D4 := (H2.out.1.keep (below_dr _ 1)).keep h4.below; obtain ⟨-, -, -, -, c4, c5⟩ := D4.ld; have K1 := Lib.hid (And.intro D4 (HA.out.2.2.2.2 _ _ _ _ _ H2.out.2 (below_dr _ 1) h4)); clear D4 h4)
    | (go_at_call 33; refine K1.out.2.mono ?_; rintro e w5 ⟨v5, rfl, h5⟩; obtain ⟨pr, A6, l6, k6, rfl, H6⟩ := h5.parts; have D5 := K1.out.1.keep h5.below; obtain ⟨-, -, -, -, c4, c5⟩ := D5.ld; obtain ⟨x0, x1, x2, x3⟩ := D5.2.1.facts; have K2 := Lib.hid (And.intro D5 h5); clear D5 h5))
  all_goals
    have D6 := K2.out.1.setq (.bool pr) (.slice A6 l6 k6)
    have Q6 := (K2.out.2.from K1.out.1.below).put int_word K2.out.1.2.1 (by have := K2.out.1.2.2; omega) (.bool pr) (.slice A6 l6 k6)
    generalize (w5.setCell _ _).setCell _ _ = W6 at D6 Q6 ⊢
    have H7 := Lib.hid (And.intro D6 (And.intro Q6 (HA.out.2.2.1 _ _ Q6)))
    clear c0 c1 c2 c3 c4 c5 HS0 HS1 HS2 HS3 HS4 D6 Q6 x0 x1 x2 x3
    obtain ⟨c0, c1, c2, c3, c4, c5⟩ := H7.out.1.ld
    have HS0 := H7.out.1.ld
    have HS1 := HS0
    have HS2 := HS0
    have HS3 := HS0
    have HS4 := HS0
    go_upto_region 7 with (fail)
    go_region_held3 (fun W => W.cell? ⟨w.heap.size, 0, none⟩ = some (.bool p) ∧ W.cell? ⟨w.heap.size, 1, none⟩ = some s ∧ W.cell? ⟨w.heap.size + 1, 0, none⟩ = some (.bool q) ∧ W.cell? ⟨w.heap.size + 1, 1, none⟩ = some t ∧ W.cell? ⟨g, 0, none⟩ = some (.bool pr) ∧ W.cell? ⟨g, 1, none⟩ = some (.slice A6 l6 k6)) (first | with_reducible exact HS1 | with_reducible exact HS2 | with_reducible exact HS3 | with_reducible exact HS4 | exact HS0)
      (first
        | (go_at_call 34; refine (H7.out.2.2 _ (by exact below_dr _ 1)).out.mono ?_; rintro e w4 ⟨v4, rfl, hb4, h4⟩; have HS1 := (H7.out.1.keep (below_trans (below_dr _ 1) hb4)).ld; have K1 := Lib.hid (And.intro (H7.out.1.keep (below_trans (below_dr _ 1) hb4)) (And.intro h4 (below_trans (below_dr _ 1) hb4))); clear hb4 h4)
        | (go_at_call 33; refine (K1.out.2.1.out _ rfl).mono ?_; rintro e w5 ⟨v5, rfl, h5⟩; obtain ⟨pu, A5, l5, k5, rfl, H5⟩ := h5.parts; have D5 := K1.out.1.keep h5.below; have HS2 := D5.ld; have HS3 := (D5.set2 (.bool pr) (.slice A6 l6 k6)).ld; have HS4 := ((D5.set2 (.bool pr) (.slice A6 l6 k6)).set3 (.bool pu) (.slice A5 l5 k5)).ld; obtain ⟨e2, f2, X2⟩ := D5.box2; obtain ⟨x0, x1, x2, x3⟩ := X2.facts; obtain ⟨e3, f3, X3⟩ := (D5.set2 (.bool pr) (.slice A6 l6 k6)).box3; obtain ⟨y0, y1, y2, y3⟩ := X3.facts; have K2 := Lib.hid (And.intro D5 (And.intro h5 (below_trans K1.out.2.2 h5.below))); clear D5 h5 X2 X3))
    clear c0 c1 c2 c3 c4 c5 x0 x1 x2 x3 y0 y1 y2 y3 HS0 HS1 HS2 HS3 HS4
    go_wp2_with fail
    refine ret_dv K2.out.1 (fun W d0 d1 d2 d3 => by simp [results, Tryz.results15, go_sem, d0, d1, d2, d3]) rfl (fun W' hW => ?_)
    exact ⟨_, _, rfl, hW.out _ _ (H7.out.2.1.then K2.out.2.2), hW.out _ _ (K2.out.2.1.from (below_trans H7.out.1.below K1.out.2.2))⟩
theorem divFloor_z {w : World} {L1 L2 : Nat} {a b : Value} {x y : Int} (ha : Zn w L1 a x) (hb : Zn w L2 b y) (h1 : L1 ≤ 17179869184) (h2 : L2 ≤ 17179869184) (h0 : y ≠ 0) :
    Calls Tryz.prog 15 #[a, b] w fun e w' => ∃ v u, e = .returned (.tuple #[v, u, .int .i64 0]) ∧ Zs w w' v (Int.fdiv x y) ∧ Zs w w' u (x - Int.fdiv x y * y) := by
  obtain ⟨p, s, m, rfl, hs, rfl⟩ := ha
  obtain ⟨q, t, n, rfl, ht, rfl⟩ := hb
  have hn : n ≠ 0 := fun h => h0 (by rw [h, sg_zero])
  by_cases hpq : p = q
  · subst hpq
    have hz : sg false (m / n) = Int.fdiv (sg p m) (sg p n) := by rw [fdiv_same]; rfl
    have := divFloor_nz (p := p) (q := p) (r := false) hs ht h1 h2 hn (by cases p <;> rfl) (.inl rfl)
    rw [hz] at this
    exact this
  · obtain rfl : q = !p := by cases p <;> cases q <;> simp_all
    by_cases hr : m % n = 0
    · have hz : sg true (m / n) = Int.fdiv (sg p m) (sg (!p) n) := by rw [fdiv_unlike p m n hn, if_pos hr, Int.sub_zero]; rfl
      have := divFloor_nz (p := p) (q := !p) (r := true) hs ht h1 h2 hn (by cases p <;> rfl) (.inr hr)
      rw [hz] at this
      exact this
    · exact divFloor_one (p := p) (q := !p) hs ht h1 h2 hn (by cases p <;> rfl) hr (by rw [fdiv_unlike p m n hn, if_neg hr]; rfl)
end Go.Proofs.YtgbfpimdnmmfpaaGreatDoor
