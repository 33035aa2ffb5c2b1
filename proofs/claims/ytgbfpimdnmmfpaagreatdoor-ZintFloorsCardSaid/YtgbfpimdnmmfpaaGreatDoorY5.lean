/-
  The document's whole numbers: DivFloor.
-/
import Derived.Test.YtgbfpimdnmmfpaaGreatDoorY4
import Derived.Test.YtgbfpimdnmmfpaaGreatDoorZ4
namespace Go.Proofs.YtgbfpimdnmmfpaaGreatDoor
namespace I
open Go Go.RowKit Go.Proofs Pl
set_option linter.unusedVariables false

/-- A struct's variable of a sign and digits. -/
def Bs (W : World) (g : Nat) : Prop := ∃ p A l c, Bx 33 W g (.bool p) (.slice A l c)
theorem Bs.keep {W W' : World} {g : Nat} (h : Bs W g) (hb : Below W.heap.size W W') : Bs W' g := by
  obtain ⟨p, A, l, c, h⟩ := h
  exact ⟨p, A, l, c, h.keep hb⟩
theorem Bs.other2 {W : World} {g k : Nat} (h : Bs W g) (hp : k ≠ g) (u v : Value) : Bs ((W.setCell ⟨k, 0, none⟩ u).setCell ⟨k, 1, none⟩ v) g := by
  obtain ⟨p, A, l, c, h⟩ := h
  exact ⟨p, A, l, c, h.other2 hp u v⟩
theorem Bs.set {W : World} {g : Nat} (h : Bs W g) (p : Bool) (A : Option Addr) (l c : Nat) : Bs ((W.setCell ⟨g, 0, none⟩ (.bool p)).setCell ⟨g, 1, none⟩ (.slice A l c)) g := by
  obtain ⟨p', A', l', c', h⟩ := h
  exact ⟨p, A, l, c, h.set _ _⟩
theorem Bs.facts {W : World} {g : Nat} (h : Bs W g) : W.frozen? ⟨g, 0, none⟩ = false ∧ W.frozen? ⟨g, 1, none⟩ = false := by
  obtain ⟨p', A', l', c', h⟩ := h
  exact h.facts.2.2
theorem Bs.cells {W : World} {g : Nat} (h : Bs W g) : ∃ a b, W.cell? ⟨g, 0, none⟩ = some a ∧ W.cell? ⟨g, 1, none⟩ = some b := by
  obtain ⟨p', A', l', c', h⟩ := h
  exact ⟨_, _, h.facts.1, h.facts.2.1⟩
theorem Bs.lt {W : World} {g : Nat} (h : Bs W g) : g < W.heap.size := by
  obtain ⟨p', A', l', c', h⟩ := h
  exact h.lt
theorem Bs.put {W : World} {g L : Nat} {v : Value} {z : Int} (h : Bs W g) (hz : Zd W L v z) (x y : Value) : Zd ((W.setCell ⟨g, 0, none⟩ x).setCell ⟨g, 1, none⟩ y) L v z := by
  obtain ⟨p', A', l', c', h⟩ := h
  exact hz.put h x y
theorem Bs.below {w W : World} {g B : Nat} (h : Bs W g) (hb : Below B w W) (hg : B ≤ g) (hs : B ≤ w.heap.size) (x y : Value) : Below B w ((W.setCell ⟨g, 0, none⟩ x).setCell ⟨g, 1, none⟩ y) := by
  obtain ⟨p', A', l', c', h⟩ := h
  exact h.below hb hg hs x y
/-- The variables of DivFloor: the two numbers, the two results. -/
def Nv (w W : World) (a b c d : Value) : Prop := Bx 33 W w.heap.size a b ∧ Bx 33 W (w.heap.size + 1) c d ∧ Bs W (w.heap.size + 1 + 1) ∧ Bs W (w.heap.size + 1 + 1 + 1) ∧ Below w.heap.size w W
theorem nv5 (w : World) (a b c d x y : Value) : Nv w (((((w.alloc (.cells #[a, b] 33)).alloc (.cells #[c, d] 33)).alloc (.cells #[.bool false, .slice none 0 0] 33)).alloc (.cells #[.bool false, .slice none 0 0] 33)).alloc (.cells #[x, y] 33)) a b c d :=
  ⟨((((Bx.new _ w a b).alloc _).alloc _).alloc _).alloc _, (((Bx.new1 _ w _ c d).alloc _).alloc _).alloc _, ⟨_, _, _, _, ((Bx.new2 _ w _ _ _ _).alloc _).alloc _⟩, ⟨_, _, _, _, (Bx.new3 _ w _ _ _ _ _).alloc _⟩, by go_grown⟩
theorem bx4 (w : World) (o1 o2 o3 o4 : Obj) (x y : Value) : Bx 33 (((((w.alloc o1).alloc o2).alloc o3).alloc o4).alloc (.cells #[x, y] 33)) (w.heap.size + 1 + 1 + 1 + 1) x y := by
  have := Bx.new 33 ((((w.alloc o1).alloc o2).alloc o3).alloc o4) x y
  rwa [World.size_alloc, World.size_alloc, World.size_alloc, World.size_alloc] at this
/-- And the quotient. -/
def Dv (w W : World) (a b c d : Value) (g : Nat) (x y : Value) : Prop := Nv w W a b c d ∧ Bx 33 W g x y ∧ w.heap.size + 1 + 1 + 1 < g
section
variable {w W W' : World} {a b c d x y u v : Value} {g : Nat} {pu : Bool} {Au : Option Addr} {lu cu : Nat}
theorem Nv.keep (h : Nv w W a b c d) (hb : Below W.heap.size W W') : Nv w W' a b c d := ⟨h.1.keep hb, h.2.1.keep hb, h.2.2.1.keep hb, h.2.2.2.1.keep hb, below_trans h.2.2.2.2 hb⟩
theorem Nv.seto (h : Nv w W a b c d) (X : Bx 33 W g x y) (hg : w.heap.size + 1 + 1 + 1 < g) (u v : Value) : Nv w ((W.setCell ⟨g, 0, none⟩ u).setCell ⟨g, 1, none⟩ v) a b c d :=
  ⟨h.1.other2 (by omega) _ _, h.2.1.other2 (by omega) _ _, h.2.2.1.other2 (by omega) _ _, h.2.2.2.1.other2 (by omega) _ _, X.below h.2.2.2.2 (by omega) (Nat.le_refl _) _ _⟩
theorem Nv.ld (h : Nv w W a b c d) : W.cell? ⟨w.heap.size, 0, none⟩ = some a ∧ W.cell? ⟨w.heap.size, 1, none⟩ = some b ∧ W.cell? ⟨w.heap.size + 1, 0, none⟩ = some c ∧ W.cell? ⟨w.heap.size + 1, 1, none⟩ = some d :=
  ⟨h.1.facts.1, h.1.facts.2.1, h.2.1.facts.1, h.2.1.facts.2.1⟩
theorem Dv.keep (h : Dv w W a b c d g x y) (hb : Below W.heap.size W W') : Dv w W' a b c d g x y := ⟨h.1.keep hb, h.2.1.keep hb, h.2.2⟩
theorem Dv.below (h : Dv w W a b c d g x y) : Below w.heap.size w W := h.1.2.2.2.2
theorem Dv.ld (h : Dv w W a b c d g x y) : W.cell? ⟨w.heap.size, 0, none⟩ = some a ∧ W.cell? ⟨w.heap.size, 1, none⟩ = some b ∧ W.cell? ⟨w.heap.size + 1, 0, none⟩ = some c ∧ W.cell? ⟨w.heap.size + 1, 1, none⟩ = some d ∧ W.cell? ⟨g, 0, none⟩ = some x ∧ W.cell? ⟨g, 1, none⟩ = some y :=
  ⟨h.1.1.facts.1, h.1.1.facts.2.1, h.1.2.1.facts.1, h.1.2.1.facts.2.1, h.2.1.facts.1, h.2.1.facts.2.1⟩
theorem Dv.set2 (h : Dv w W a b c d g x y) (p : Bool) (A : Option Addr) (l k : Nat) : Dv w ((W.setCell ⟨w.heap.size + 1 + 1, 0, none⟩ (.bool p)).setCell ⟨w.heap.size + 1 + 1, 1, none⟩ (.slice A l k)) a b c d g x y := by
  obtain ⟨⟨h1, h2, h3, h4, h5⟩, h6, h7⟩ := h
  exact ⟨⟨h1.other2 (by omega) _ _, h2.other2 (by omega) _ _, h3.set _ _ _ _, h4.other2 (by omega) _ _, h3.below h5 (by omega) (Nat.le_refl _) _ _⟩, h6.other2 (by omega) _ _, h7⟩
theorem Dv.set3 (h : Dv w W a b c d g x y) (p : Bool) (A : Option Addr) (l k : Nat) : Dv w ((W.setCell ⟨w.heap.size + 1 + 1 + 1, 0, none⟩ (.bool p)).setCell ⟨w.heap.size + 1 + 1 + 1, 1, none⟩ (.slice A l k)) a b c d g x y := by
  obtain ⟨⟨h1, h2, h3, h4, h5⟩, h6, h7⟩ := h
  exact ⟨⟨h1.other2 (by omega) _ _, h2.other2 (by omega) _ _, h3.other2 (by omega) _ _, h4.set _ _ _ _, h4.below h5 (by omega) (Nat.le_refl _) _ _⟩, h6.other2 (by omega) _ _, h7⟩
theorem Dv.setq (h : Dv w W a b c d g x y) (u v : Value) : Dv w ((W.setCell ⟨g, 0, none⟩ u).setCell ⟨g, 1, none⟩ v) a b c d g u v :=
  ⟨h.1.seto h.2.1 h.2.2 u v, h.2.1.set u v, h.2.2⟩
theorem ret_dv {P : Program} {fn : Func} {R : Ending → World → Prop} {act : Act} {p0 q0 : Bool} {A1 A2 : Option Addr} {l1 l2 k1 k2 : Nat} (D : Dv w W a b c d g x y)
    (hr : ∀ W : World, W.cell? ⟨w.heap.size + 1 + 1, 0, none⟩ = some (.bool p0) → W.cell? ⟨w.heap.size + 1 + 1, 1, none⟩ = some (.slice A1 l1 k1) → W.cell? ⟨w.heap.size + 1 + 1 + 1, 0, none⟩ = some (.bool q0) → W.cell? ⟨w.heap.size + 1 + 1 + 1, 1, none⟩ = some (.slice A2 l2 k2) → (results fn act.tmps).run P W = .ok (.tuple #[.agg #[.bool p0, .slice A1 l1 k1], .agg #[.bool q0, .slice A2 l2 k2]]) W) (hd : act.defers = [])
    (hR : ∀ W', Hid (∀ (L : Nat) (z : Value) (k : Int), (Zd W L z k → Zd W' L z k)) → Below w.heap.size w W' → R (.returned (.tuple #[.agg #[.bool p0, .slice A1 l1 k1], .agg #[.bool q0, .slice A2 l2 k2]])) W') :
    bodyPost P fn R .ret act ((((W.setCell ⟨w.heap.size + 1 + 1, 0, none⟩ (.bool p0)).setCell ⟨w.heap.size + 1 + 1, 1, none⟩ (.slice A1 l1 k1)).setCell ⟨w.heap.size + 1 + 1 + 1, 0, none⟩ (.bool q0)).setCell ⟨w.heap.size + 1 + 1 + 1, 1, none⟩ (.slice A2 l2 k2)) := by
  have D2 := D.set2 p0 A1 l1 k1
  have D3 := D2.set3 q0 A2 l2 k2
  obtain ⟨⟨h1, h2, ⟨e, f, k, l, h3⟩, ⟨e', f', k', l', h4⟩, h5⟩, h6, h7⟩ := D
  have X2 := (h3.set (.bool p0) (.slice A1 l1 k1)).other2 (k := w.heap.size + 1 + 1 + 1) (by omega) (.bool q0) (.slice A2 l2 k2)
  have X3' := h4.other2 (k := w.heap.size + 1 + 1) (by omega) (.bool p0) (.slice A1 l1 k1)
  have X3 := X3'.set (.bool q0) (.slice A2 l2 k2)
  exact bodyPost_ret (hr _ X2.facts.1 X2.facts.2.1 X3.facts.1 X3.facts.2.1) hd (hR _ (fun L z k hz => (hz.put h3 _ _).put X3' _ _) D3.below)
end
/-- What the last line of DivFloor calls. -/
def LastOf (w W : World) (L : Nat) (a b q : Value) (x y z : Int) : Prop :=
  ∀ W1, Below W.heap.size W W1 → Hid (Calls Tryz.prog 37 #[q, b] W1 fun e w2 => ∃ v, e = .returned v ∧ Below W1.heap.size W1 w2 ∧ Hid (∀ W2, W2 = w2 → Calls Tryz.prog 36 #[a, v] W2 fun e w3 => ∃ r, e = .returned r ∧ Zd w3 L r (x - z * y) ∧ Below W2.heap.size W2 w3))
theorem lastOf {w W : World} {L1 L2 : Nat} {a b q : Value} {x y z : Int} (ha : Zd w L1 a x) (hb : Zd w L2 b y) (h1 : L1 ≤ 1048576) (h2 : L2 ≤ 1048576) (hW0 : Below w.heap.size w W) (hq : Zd W (L1 + 9) q z) : LastOf w W (L1 + (L1 + 9 + L2) + 1) a b q x y z := by
  intro W1 hW
  refine (mul_d (hq.keep hW) (hb.keep (below_trans hW0 hW)) (by omega) (by omega)).mono ?_
  rintro e w2 ⟨v, he, hv, hbv⟩
  refine ⟨v, he, hbv, ?_⟩
  rintro W2 rfl
  exact sub_d (ha.keep (below_trans (below_trans hW0 hW) hbv)) hv (by omega) (by omega)
set_option maxRecDepth 100000 in
set_option maxHeartbeats 2000000 in
theorem divFloor_nn_false {w : World} {L1 L2 m n : Nat} {p : Bool} {As : Option Addr} {ls cs : Nat} {t : Value} {x y z : Int} (ha : Zd w L1 (.agg #[.bool p, .slice As ls cs]) x) (hb : Zd w L2 (.agg #[.bool false, t]) y) (hm : x.natAbs = m) (hn : y.natAbs = n) (h1 : L1 ≤ 1048576) (h2 : L2 ≤ 1048576) (h0 : n ≠ 0) (hx : decide (x < 0) = false) (hz : z = sg false (m / n)) :
    Calls Tryz.prog 19 #[.agg #[.bool p, .slice As ls cs], .agg #[.bool false, t]] w fun e w' => ∃ v u, e = .returned (.tuple #[v, u]) ∧ Zd w' (L1 + 9) v z ∧ Zd w' (L1 + (L1 + 9 + L2) + 1) u (x - z * y) ∧ Below w.heap.size w w' := by
  have hs : Dn w L1 (.slice As ls cs) m := by obtain ⟨s', e, h⟩ := ha; rw [hm] at h; injection e with e; injection e with e; simp only [List.cons.injEq] at e; rw [e.2.1]; exact h
  have ht : Dn w L2 t n := by obtain ⟨s', e, h⟩ := hb; rw [hn] at h; injection e with e; injection e with e; simp only [List.cons.injEq] at e; rw [e.2.1]; exact h
  have hp : p = false := by
    obtain ⟨s', e, h⟩ := ha; injection e with e; injection e with e; simp only [List.cons.injEq, Value.bool.injEq] at e; rw [e.1, hx]
  subst hp
  have hneg := fun W (hb : Below w.heap.size w W) => neg_d (ha.keep hb) (by omega)
  have hdm := fun W s' (hb : Below w.heap.size w W) (h : Dn W L1 s' m) => divMod_dn h (ht.keep hb) h0 (by omega) (by omega)
  have hff := fun w1 v1 (h : Dn w1 L1 v1 (m / n)) => form_d false h (by omega)
  have hft := fun w1 v1 (h : Dn w1 L1 v1 (m / n)) => form_d true h (by omega)
  have hlast := fun W v3 (hb0 : Below w.heap.size w W) (hq : Zd W (L1 + 9) v3 z) => lastOf ha hb h1 h2 hb0 hq
  have hone := fun W => small_d (w := W) (z := 1) (by unfold Small64; omega)
  have hsub := fun W v1 v2 (h3 : Zd W L1 v1 (sg true (m / n))) (h4 : Zd W 7 v2 1) => sub_d h3 h4 (by omega) (by omega)
  have hnp : (-x).natAbs = m := by rw [Int.natAbs_neg]; exact hm
  have HS := Lib.hid hs
  have HX := Lib.hid (And.intro hx hnp)
  have HA := Lib.hid (And.intro hdm (And.intro hff (And.intro hft (And.intro hlast (And.intro hone hsub)))))
  have HN := Lib.hid hneg
  have HZ := Lib.hid hz
  clear hneg hdm hff hft hlast hone hsub hs ht ha hb hm hn h1 h2 h0 hx hz hnp
  have N0 := nv5 w (.bool false) (.slice As ls cs) (.bool false) t (.bool false) (.slice As ls cs)
  have X0 := bx4 w (.cells #[.bool false, .slice As ls cs] 33) (.cells #[.bool false, t] 33) (.cells #[.bool false, .slice none 0 0] 33) (.cells #[.bool false, .slice none 0 0] 33) (.bool false) (.slice As ls cs)
  go_enter Tryz.func19, Tryz.ntmps19
  go_upto_region 2 with (fail)
  generalize ((((w.alloc _).alloc _).alloc _).alloc _).alloc _ = W0 at N0 X0 ⊢
  obtain ⟨c0, c1, c2, c3⟩ := N0.ld
  obtain ⟨x0, x1, -, -⟩ := X0.facts
  have H0 := Lib.hid (And.intro N0 (And.intro X0 (HS.out.keep N0.2.2.2.2)))
  clear N0 X0
  go_wp2_with fail
  refine (HA.out.1 _ _ H0.out.1.2.2.2.2 H0.out.2.2).mono ?_; rintro e w2 ⟨v2, v3, rfl, h2, h3, hb2⟩
  have N2 := H0.out.1.keep hb2
  have X2 := H0.out.2.1.keep hb2
  clear c0 c1 c2 c3 x0 x1
  obtain ⟨c0, c1, c2, c3⟩ := N2.ld
  obtain ⟨x0, x1, -, -⟩ := X2.facts
  obtain ⟨⟨A2, k2, rfl, -⟩, -⟩ := h3
  obtain ⟨lr, hlr⟩ : ∃ lr, lr = (dg TB (m % n)).length := ⟨_, rfl⟩
  rw [← hlr]
  clear hlr
  have H2 := Lib.hid (And.intro N2 (And.intro X2 h2))
  clear N2 X2 h2 hb2 H0
  go_wp2_with fail
  refine (HA.out.2.1 _ _ H2.out.2.2).mono ?_; rintro e w3 ⟨v4, rfl, h4, hb3⟩
  obtain ⟨pz, A, la, c, rfl, H4'⟩ := h4.parts
  have N3 : Dv w (w3.alloc (.cells #[.bool pz, .slice A la c] 33)) (.bool false) (.slice As ls cs) (.bool false) t w3.heap.size (.bool pz) (.slice A la c) := ⟨(H2.out.1.keep hb3).keep (below_al _ _), Bx.new _ _ _ _, (H2.out.1.keep hb3).2.2.2.1.lt⟩
  have X3 := (H2.out.2.1.keep hb3).keep (below_al w3 (.cells #[.bool pz, .slice A la c] 33))
  have Q3 := h4.keep (below_al w3 (.cells #[.bool pz, .slice A la c] 33))
  have R3 := (H2.out.2.2.keep hb3).keep (below_al w3 (.cells #[.bool pz, .slice A la c] 33))
  clear h4 H4' hb3 H2 c0 c1 c2 c3 x0 x1
  go_upto_region 6 with (fail)
  obtain ⟨g, hg⟩ : ∃ g, g = w3.heap.size := ⟨_, rfl⟩
  generalize w3.alloc _ = W3 at N3 X3 Q3 R3 ⊢
  rw [← hg] at N3 ⊢
  clear hg
  obtain ⟨c0, c1, c2, c3, c4, c5⟩ := N3.ld
  obtain ⟨x0, x1, -, -⟩ := X3.facts
  rw [← HZ.out] at Q3
  have Q3 := Q3.mono (L' := L1 + 9) (by omega)
  have H3 := Lib.hid (And.intro N3 (And.intro Q3 (HA.out.2.2.2.1 _ _ N3.below Q3)))
  have HS0 := N3.ld
  have HS1 := HS0
  have HS2 := HS0
  have HS3 := HS0
  have HS4 := HS0
  clear N3 Q3 R3 X3
  go_upto_region 10 with (fail)
  clear x0 x1
  go_region_held3 (fun W => W.cell? ⟨w.heap.size, 0, none⟩ = some (.bool false) ∧ W.cell? ⟨w.heap.size, 1, none⟩ = some (.slice As ls cs) ∧ W.cell? ⟨w.heap.size + 1, 0, none⟩ = some (.bool false) ∧ W.cell? ⟨w.heap.size + 1, 1, none⟩ = some t ∧ W.cell? ⟨g, 0, none⟩ = some (.bool pz) ∧ W.cell? ⟨g, 1, none⟩ = some (.slice A la c)) (first | with_reducible exact HS1 | with_reducible exact HS2 | with_reducible exact HS3 | with_reducible exact HS4 | exact HS0)
    (first
      | (go_at_call 37; refine (H3.out.2.2 _ (by exact below_dr _ 1)).out.mono ?_; rintro e w4 ⟨v4, rfl, hb4, h4⟩; have HS1 := (H3.out.1.keep (below_trans (below_dr _ 1) hb4)).ld; have K1 := Lib.hid (And.intro (H3.out.1.keep (below_trans (below_dr _ 1) hb4)) (And.intro h4 (below_trans (below_dr _ 1) hb4))); clear hb4 h4)
      | (go_at_call 36; refine (K1.out.2.1.out _ rfl).mono ?_; rintro e w5 ⟨v5, rfl, h5, hb5⟩; obtain ⟨pu, A5, l5, k5, rfl, H5⟩ := h5.parts; have D5 := K1.out.1.keep hb5; have HS2 := D5.ld; have HS3 := (D5.set2 pz A la c).ld; have HS4 := ((D5.set2 pz A la c).set3 pu A5 l5 k5).ld; obtain ⟨x2, x3⟩ := D5.1.2.2.1.facts; obtain ⟨e2, f2, x0, x1⟩ := D5.1.2.2.1.cells; obtain ⟨y2, y3⟩ := (D5.set2 pz A la c).1.2.2.2.1.facts; obtain ⟨e3, f3, y0, y1⟩ := (D5.set2 pz A la c).1.2.2.2.1.cells; have K2 := Lib.hid (And.intro D5 (And.intro h5 (below_trans K1.out.2.2 hb5))); clear D5 h5 hb5))
  clear c0 c1 c2 c3 c4 c5 x0 x1 x2 x3 y0 y1 y2 y3 HS0 HS1 HS2 HS3 HS4
  go_wp2_with fail
  refine ret_dv K2.out.1 (fun W d0 d1 d2 d3 => by simp [results, Tryz.results19, go_sem, d0, d1, d2, d3]) rfl (fun W' hW hbW => ?_)
  exact ⟨_, _, rfl, hW.out _ _ _ (H3.out.2.1.keep K2.out.2.2), hW.out _ _ _ K2.out.2.1, hbW⟩
set_option maxRecDepth 100000 in
set_option maxHeartbeats 2000000 in
theorem divFloor_ev_false {w : World} {L1 L2 m n : Nat} {p : Bool} {As : Option Addr} {ls cs : Nat} {t : Value} {x y z : Int} (ha : Zd w L1 (.agg #[.bool p, .slice As ls cs]) x) (hb : Zd w L2 (.agg #[.bool false, t]) y) (hm : x.natAbs = m) (hn : y.natAbs = n) (h1 : L1 ≤ 1048576) (h2 : L2 ≤ 1048576) (h0 : n ≠ 0) (hx : decide (x < 0) = true) (hr : m % n = 0) (hz : z = sg true (m / n)) :
    Calls Tryz.prog 19 #[.agg #[.bool p, .slice As ls cs], .agg #[.bool false, t]] w fun e w' => ∃ v u, e = .returned (.tuple #[v, u]) ∧ Zd w' (L1 + 9) v z ∧ Zd w' (L1 + (L1 + 9 + L2) + 1) u (x - z * y) ∧ Below w.heap.size w w' := by
  have hs : Dn w L1 (.slice As ls cs) m := by obtain ⟨s', e, h⟩ := ha; rw [hm] at h; injection e with e; injection e with e; simp only [List.cons.injEq] at e; rw [e.2.1]; exact h
  have ht : Dn w L2 t n := by obtain ⟨s', e, h⟩ := hb; rw [hn] at h; injection e with e; injection e with e; simp only [List.cons.injEq] at e; rw [e.2.1]; exact h
  have hp : p = true := by
    obtain ⟨s', e, h⟩ := ha; injection e with e; injection e with e; simp only [List.cons.injEq, Value.bool.injEq] at e; rw [e.1, hx]
  subst hp
  have hneg := fun W (hb : Below w.heap.size w W) => neg_d (ha.keep hb) (by omega)
  have hdm := fun W s' (hb : Below w.heap.size w W) (h : Dn W L1 s' m) => divMod_dn h (ht.keep hb) h0 (by omega) (by omega)
  have hff := fun w1 v1 (h : Dn w1 L1 v1 (m / n)) => form_d false h (by omega)
  have hft := fun w1 v1 (h : Dn w1 L1 v1 (m / n)) => form_d true h (by omega)
  have hlast := fun W v3 (hb0 : Below w.heap.size w W) (hq : Zd W (L1 + 9) v3 z) => lastOf ha hb h1 h2 hb0 hq
  have hone := fun W => small_d (w := W) (z := 1) (by unfold Small64; omega)
  have hsub := fun W v1 v2 (h3 : Zd W L1 v1 (sg true (m / n))) (h4 : Zd W 7 v2 1) => sub_d h3 h4 (by omega) (by omega)
  have hnp : (-x).natAbs = m := by rw [Int.natAbs_neg]; exact hm
  have HS := Lib.hid hs
  have HX := Lib.hid (And.intro hx hnp)
  have HA := Lib.hid (And.intro hdm (And.intro hff (And.intro hft (And.intro hlast (And.intro hone hsub)))))
  have HN := Lib.hid hneg
  have HZ := Lib.hid hz
  have HR := Lib.hid hr
  clear hneg hdm hff hft hlast hone hsub hs ht ha hb hm hn h1 h2 h0 hx hz hnp hr
  have N0 := nv5 w (.bool true) (.slice As ls cs) (.bool false) t (.bool true) (.slice As ls cs)
  have X0 := bx4 w (.cells #[.bool true, .slice As ls cs] 33) (.cells #[.bool false, t] 33) (.cells #[.bool false, .slice none 0 0] 33) (.cells #[.bool false, .slice none 0 0] 33) (.bool true) (.slice As ls cs)
  go_enter Tryz.func19, Tryz.ntmps19
  go_upto_region 2 with (fail)
  generalize ((((w.alloc _).alloc _).alloc _).alloc _).alloc _ = W0 at N0 X0 ⊢
  obtain ⟨c0, c1, c2, c3⟩ := N0.ld
  obtain ⟨x0, x1, -, -⟩ := X0.facts
  have H0 := Lib.hid (And.intro N0 (And.intro X0 (HS.out.keep N0.2.2.2.2)))
  clear N0 X0
  go_wp2_with fail
  refine (HA.out.1 _ _ H0.out.1.2.2.2.2 H0.out.2.2).mono ?_; rintro e w2 ⟨v2, v3, rfl, h2, h3, hb2⟩
  have N2 := H0.out.1.keep hb2
  have X2 := H0.out.2.1.keep hb2
  clear c0 c1 c2 c3 x0 x1
  obtain ⟨c0, c1, c2, c3⟩ := N2.ld
  obtain ⟨x0, x1, -, -⟩ := X2.facts
  obtain ⟨⟨A2, k2, rfl, -⟩, -⟩ := h3
  obtain ⟨lr, hlr⟩ : ∃ lr, lr = (dg TB (m % n)).length := ⟨_, rfl⟩
  rw [← hlr]
  have hl0 : ¬ (0 : Int) < (lr : Int) := by rw [hlr, HR.out, dg_zero]; simp
  clear hlr
  have H2 := Lib.hid (And.intro N2 (And.intro X2 h2))
  clear N2 X2 h2 hb2 H0
  go_wp2_with fail
  refine (HA.out.2.1 _ _ H2.out.2.2).mono ?_; rintro e w3 ⟨v4, rfl, h4, hb3⟩
  obtain ⟨pz, A, la, c, rfl, H4'⟩ := h4.parts
  have N3 : Dv w (w3.alloc (.cells #[.bool pz, .slice A la c] 33)) (.bool true) (.slice As ls cs) (.bool false) t w3.heap.size (.bool pz) (.slice A la c) := ⟨(H2.out.1.keep hb3).keep (below_al _ _), Bx.new _ _ _ _, (H2.out.1.keep hb3).2.2.2.1.lt⟩
  have X3 := (H2.out.2.1.keep hb3).keep (below_al w3 (.cells #[.bool pz, .slice A la c] 33))
  have Q3 := h4.keep (below_al w3 (.cells #[.bool pz, .slice A la c] 33))
  have R3 := (H2.out.2.2.keep hb3).keep (below_al w3 (.cells #[.bool pz, .slice A la c] 33))
  clear h4 H4' hb3 H2 c0 c1 c2 c3 x0 x1
  go_upto_region 6 with (fail)
  obtain ⟨g, hg⟩ : ∃ g, g = w3.heap.size := ⟨_, rfl⟩
  generalize w3.alloc _ = W3 at N3 X3 Q3 R3 ⊢
  rw [← hg] at N3 ⊢
  clear hg
  obtain ⟨c0, c1, c2, c3, c4, c5⟩ := N3.ld
  obtain ⟨x0, x1, -, -⟩ := X3.facts
  obtain ⟨-, -, g2, g3⟩ := N3.2.1.facts
  have H3 := Lib.hid (And.intro N3 R3)
  clear N3 X3 Q3 R3
  go_wp2_with fail
  refine (HA.out.2.2.1 _ _ H3.out.2).mono ?_; rintro e w4 ⟨v5, rfl, h5, hb4⟩
  obtain ⟨py, A7, l7, k7, rfl, H5'⟩ := h5.parts
  clear c0 c1 c2 c3 c4 c5 x0 x1 g2 g3
  have N4 := H3.out.1.keep hb4
  obtain ⟨c0, c1, c2, c3, c4, c5⟩ := N4.ld
  obtain ⟨-, -, g2, g3⟩ := N4.2.1.facts
  have D4 := N4.setq (.bool py) (.slice A7 l7 k7)
  have Q4 := h5.put N4.2.1 (.bool py) (.slice A7 l7 k7)
  clear N4 h5 H5' hb4 H3
  go_upto_region 8 with (fail)
  generalize (w4.setCell _ _).setCell _ _ = W4 at D4 Q4 ⊢
  clear c0 c1 c2 c3 c4 c5 g2 g3
  obtain ⟨c0, c1, c2, c3, c4, c5⟩ := D4.ld
  rw [← HZ.out] at Q4
  have Q4 := Q4.mono (L' := L1 + 9) (by omega)
  have H4 := Lib.hid (And.intro D4 (And.intro Q4 (HA.out.2.2.2.1 _ _ D4.below Q4)))
  have HS0 := D4.ld
  have HS1 := HS0
  have HS2 := HS0
  have HS3 := HS0
  have HS4 := HS0
  clear D4 Q4
  go_upto_region 10 with (fail)
  go_region_held3 (fun W => W.cell? ⟨w.heap.size, 0, none⟩ = some (.bool true) ∧ W.cell? ⟨w.heap.size, 1, none⟩ = some (.slice As ls cs) ∧ W.cell? ⟨w.heap.size + 1, 0, none⟩ = some (.bool false) ∧ W.cell? ⟨w.heap.size + 1, 1, none⟩ = some t ∧ W.cell? ⟨g, 0, none⟩ = some (.bool py) ∧ W.cell? ⟨g, 1, none⟩ = some (.slice A7 l7 k7)) (first | with_reducible exact HS1 | with_reducible exact HS2 | with_reducible exact HS3 | with_reducible exact HS4 | exact HS0)
    (first
      | (go_at_call 37; refine (H4.out.2.2 _ (by exact below_dr _ 1)).out.mono ?_; rintro e w4 ⟨v4, rfl, hb4, h4⟩; have HS1 := (H4.out.1.keep (below_trans (below_dr _ 1) hb4)).ld; have K1 := Lib.hid (And.intro (H4.out.1.keep (below_trans (below_dr _ 1) hb4)) (And.intro h4 (below_trans (below_dr _ 1) hb4))); clear hb4 h4)
      | (go_at_call 36; refine (K1.out.2.1.out _ rfl).mono ?_; rintro e w5 ⟨v5, rfl, h5, hb5⟩; obtain ⟨pu, A5, l5, k5, rfl, H5⟩ := h5.parts; have D5 := K1.out.1.keep hb5; have HS2 := D5.ld; have HS3 := (D5.set2 py A7 l7 k7).ld; have HS4 := ((D5.set2 py A7 l7 k7).set3 pu A5 l5 k5).ld; obtain ⟨x2, x3⟩ := D5.1.2.2.1.facts; obtain ⟨e2, f2, x0, x1⟩ := D5.1.2.2.1.cells; obtain ⟨y2, y3⟩ := (D5.set2 py A7 l7 k7).1.2.2.2.1.facts; obtain ⟨e3, f3, y0, y1⟩ := (D5.set2 py A7 l7 k7).1.2.2.2.1.cells; have K2 := Lib.hid (And.intro D5 (And.intro h5 (below_trans K1.out.2.2 hb5))); clear D5 h5 hb5))
  clear c0 c1 c2 c3 c4 c5 x0 x1 x2 x3 y0 y1 y2 y3 HS0 HS1 HS2 HS3 HS4
  go_wp2_with fail
  refine ret_dv K2.out.1 (fun W d0 d1 d2 d3 => by simp [results, Tryz.results19, go_sem, d0, d1, d2, d3]) rfl (fun W' hW hbW => ?_)
  exact ⟨_, _, rfl, hW.out _ _ _ (H4.out.2.1.keep K2.out.2.2), hW.out _ _ _ K2.out.2.1, hbW⟩
set_option maxRecDepth 100000 in
set_option maxHeartbeats 2000000 in
theorem divFloor_one_false {w : World} {L1 L2 m n : Nat} {p : Bool} {As : Option Addr} {ls cs : Nat} {t : Value} {x y z : Int} (ha : Zd w L1 (.agg #[.bool p, .slice As ls cs]) x) (hb : Zd w L2 (.agg #[.bool false, t]) y) (hm : x.natAbs = m) (hn : y.natAbs = n) (h1 : L1 ≤ 1048576) (h2 : L2 ≤ 1048576) (h0 : n ≠ 0) (hx : decide (x < 0) = true) (hr : m % n ≠ 0) (hz : z = sg true (m / n) - 1) :
    Calls Tryz.prog 19 #[.agg #[.bool p, .slice As ls cs], .agg #[.bool false, t]] w fun e w' => ∃ v u, e = .returned (.tuple #[v, u]) ∧ Zd w' (L1 + 9) v z ∧ Zd w' (L1 + (L1 + 9 + L2) + 1) u (x - z * y) ∧ Below w.heap.size w w' := by
  have hs : Dn w L1 (.slice As ls cs) m := by obtain ⟨s', e, h⟩ := ha; rw [hm] at h; injection e with e; injection e with e; simp only [List.cons.injEq] at e; rw [e.2.1]; exact h
  have ht : Dn w L2 t n := by obtain ⟨s', e, h⟩ := hb; rw [hn] at h; injection e with e; injection e with e; simp only [List.cons.injEq] at e; rw [e.2.1]; exact h
  have hp : p = true := by
    obtain ⟨s', e, h⟩ := ha; injection e with e; injection e with e; simp only [List.cons.injEq, Value.bool.injEq] at e; rw [e.1, hx]
  subst hp
  have hneg := fun W (hb : Below w.heap.size w W) => neg_d (ha.keep hb) (by omega)
  have hdm := fun W s' (hb : Below w.heap.size w W) (h : Dn W L1 s' m) => divMod_dn h (ht.keep hb) h0 (by omega) (by omega)
  have hff := fun w1 v1 (h : Dn w1 L1 v1 (m / n)) => form_d false h (by omega)
  have hft := fun w1 v1 (h : Dn w1 L1 v1 (m / n)) => form_d true h (by omega)
  have hlast := fun W v3 (hb0 : Below w.heap.size w W) (hq : Zd W (L1 + 9) v3 z) => lastOf ha hb h1 h2 hb0 hq
  have hone := fun W => small_d (w := W) (z := 1) (by unfold Small64; omega)
  have hsub := fun W v1 v2 (h3 : Zd W L1 v1 (sg true (m / n))) (h4 : Zd W 7 v2 1) => sub_d h3 h4 (by omega) (by omega)
  have hnp : (-x).natAbs = m := by rw [Int.natAbs_neg]; exact hm
  have HS := Lib.hid hs
  have HX := Lib.hid (And.intro hx hnp)
  have HA := Lib.hid (And.intro hdm (And.intro hff (And.intro hft (And.intro hlast (And.intro hone hsub)))))
  have HN := Lib.hid hneg
  have HZ := Lib.hid hz
  have HR := Lib.hid hr
  clear hneg hdm hff hft hlast hone hsub hs ht ha hb hm hn h1 h2 h0 hx hz hnp hr
  have N0 := nv5 w (.bool true) (.slice As ls cs) (.bool false) t (.bool true) (.slice As ls cs)
  have X0 := bx4 w (.cells #[.bool true, .slice As ls cs] 33) (.cells #[.bool false, t] 33) (.cells #[.bool false, .slice none 0 0] 33) (.cells #[.bool false, .slice none 0 0] 33) (.bool true) (.slice As ls cs)
  go_enter Tryz.func19, Tryz.ntmps19
  go_upto_region 2 with (fail)
  generalize ((((w.alloc _).alloc _).alloc _).alloc _).alloc _ = W0 at N0 X0 ⊢
  obtain ⟨c0, c1, c2, c3⟩ := N0.ld
  obtain ⟨x0, x1, -, -⟩ := X0.facts
  have H0 := Lib.hid (And.intro N0 (And.intro X0 (HS.out.keep N0.2.2.2.2)))
  clear N0 X0
  go_wp2_with fail
  refine (HA.out.1 _ _ H0.out.1.2.2.2.2 H0.out.2.2).mono ?_; rintro e w2 ⟨v2, v3, rfl, h2, h3, hb2⟩
  have N2 := H0.out.1.keep hb2
  have X2 := H0.out.2.1.keep hb2
  clear c0 c1 c2 c3 x0 x1
  obtain ⟨c0, c1, c2, c3⟩ := N2.ld
  obtain ⟨x0, x1, -, -⟩ := X2.facts
  obtain ⟨⟨A2, k2, rfl, -⟩, -⟩ := h3
  obtain ⟨lr, hlr⟩ : ∃ lr, lr = (dg TB (m % n)).length := ⟨_, rfl⟩
  rw [← hlr]
  have hl0 : (0 : Int) < (lr : Int) := by
    have : lr ≠ 0 := fun h => HR.out ((dg_eq_nil TB_one _).1 (List.eq_nil_of_length_eq_zero (hlr ▸ h)))
    omega
  clear hlr
  have H2 := Lib.hid (And.intro N2 (And.intro X2 h2))
  clear N2 X2 h2 hb2 H0
  go_wp2_with fail
  refine (HA.out.2.1 _ _ H2.out.2.2).mono ?_; rintro e w3 ⟨v4, rfl, h4, hb3⟩
  obtain ⟨pz, A, la, c, rfl, H4'⟩ := h4.parts
  have N3 : Dv w (w3.alloc (.cells #[.bool pz, .slice A la c] 33)) (.bool true) (.slice As ls cs) (.bool false) t w3.heap.size (.bool pz) (.slice A la c) := ⟨(H2.out.1.keep hb3).keep (below_al _ _), Bx.new _ _ _ _, (H2.out.1.keep hb3).2.2.2.1.lt⟩
  have X3 := (H2.out.2.1.keep hb3).keep (below_al w3 (.cells #[.bool pz, .slice A la c] 33))
  have Q3 := h4.keep (below_al w3 (.cells #[.bool pz, .slice A la c] 33))
  have R3 := (H2.out.2.2.keep hb3).keep (below_al w3 (.cells #[.bool pz, .slice A la c] 33))
  clear h4 H4' hb3 H2 c0 c1 c2 c3 x0 x1
  go_upto_region 6 with (fail)
  obtain ⟨g, hg⟩ : ∃ g, g = w3.heap.size := ⟨_, rfl⟩
  generalize w3.alloc _ = W3 at N3 X3 Q3 R3 ⊢
  rw [← hg] at N3 ⊢
  clear hg
  obtain ⟨c0, c1, c2, c3, c4, c5⟩ := N3.ld
  obtain ⟨x0, x1, -, -⟩ := X3.facts
  obtain ⟨-, -, g2, g3⟩ := N3.2.1.facts
  have H3 := Lib.hid (And.intro N3 R3)
  clear N3 X3 Q3 R3
  go_wp2_with fail
  refine (HA.out.2.2.1 _ _ H3.out.2).mono ?_; rintro e w4 ⟨v5, rfl, h5, hb4⟩
  obtain ⟨py, A7, l7, k7, rfl, H5'⟩ := h5.parts
  clear c0 c1 c2 c3 c4 c5 x0 x1 g2 g3
  have N4 := H3.out.1.keep hb4
  obtain ⟨c0, c1, c2, c3, c4, c5⟩ := N4.ld
  obtain ⟨-, -, g2, g3⟩ := N4.2.1.facts
  have D4 := N4.setq (.bool py) (.slice A7 l7 k7)
  have Q4 := h5.put N4.2.1 (.bool py) (.slice A7 l7 k7)
  clear N4 h5 H5' hb4 H3
  go_upto_region 8 with (fail)
  generalize (w4.setCell _ _).setCell _ _ = W4 at D4 Q4 ⊢
  clear c0 c1 c2 c3 c4 c5 g2 g3
  obtain ⟨c0, c1, c2, c3, c4, c5⟩ := D4.ld
  have H4 := Lib.hid (And.intro D4 Q4)
  clear D4 Q4
  go_upto_region 9 with (fail)
  go_region_with (first
    | (go_at_call 40; refine (HA.out.2.2.2.2.1 _).mono ?_; rintro e w5 ⟨v6, rfl, h6, hb5⟩; have D5 := (H4.out.1.keep (below_dr _ 1)).keep hb5; have Q5 := (H4.out.2.keep (below_dr _ 1)).keep hb5; obtain ⟨-, -, -, -, c4, c5⟩ := D5.ld; have K1 := Lib.hid (And.intro D5 (HA.out.2.2.2.2.2 _ _ _ Q5 h6)); clear D5 Q5 h6 hb5)
    | (go_at_call 36; refine K1.out.2.mono ?_; rintro e w6 ⟨v7, rfl, h7, hb6⟩; obtain ⟨pr, A6, l6, k6, rfl, H6⟩ := h7.parts; have D6 := K1.out.1.keep hb6; obtain ⟨-, -, -, -, c4, c5⟩ := D6.ld; obtain ⟨x0, x1, x2, x3⟩ := D6.2.1.facts; have K2 := Lib.hid (And.intro D6 h7); clear D6 h7 hb6))
  all_goals
    have D7 := K2.out.1.setq (.bool pr) (.slice A6 l6 k6)
    have Q7 := K2.out.2.put K2.out.1.2.1 (.bool pr) (.slice A6 l6 k6)
    generalize (w6.setCell _ _).setCell _ _ = W6 at D7 Q7 ⊢
    rw [← HZ.out] at Q7
    have Q7 := Q7.mono (L' := L1 + 9) (by omega)
    have H7 := Lib.hid (And.intro D7 (And.intro Q7 (HA.out.2.2.2.1 _ _ D7.below Q7)))
    have HS0 := D7.ld
    have HS1 := HS0
    have HS2 := HS0
    have HS3 := HS0
    have HS4 := HS0
    clear c0 c1 c2 c3 c4 c5 D7 Q7 x0 x1 x2 x3 K1 K2 H4
    obtain ⟨c0, c1, c2, c3, c4, c5⟩ := H7.out.1.ld
    go_upto_region 10 with (fail)
    go_region_held3 (fun W => W.cell? ⟨w.heap.size, 0, none⟩ = some (.bool true) ∧ W.cell? ⟨w.heap.size, 1, none⟩ = some (.slice As ls cs) ∧ W.cell? ⟨w.heap.size + 1, 0, none⟩ = some (.bool false) ∧ W.cell? ⟨w.heap.size + 1, 1, none⟩ = some t ∧ W.cell? ⟨g, 0, none⟩ = some (.bool pr) ∧ W.cell? ⟨g, 1, none⟩ = some (.slice A6 l6 k6)) (first | with_reducible exact HS1 | with_reducible exact HS2 | with_reducible exact HS3 | with_reducible exact HS4 | exact HS0)
      (first
        | (go_at_call 37; refine (H7.out.2.2 _ (by exact below_dr _ 1)).out.mono ?_; rintro e w4 ⟨v4, rfl, hb4, h4⟩; have HS1 := (H7.out.1.keep (below_trans (below_dr _ 1) hb4)).ld; have K1 := Lib.hid (And.intro (H7.out.1.keep (below_trans (below_dr _ 1) hb4)) (And.intro h4 (below_trans (below_dr _ 1) hb4))); clear hb4 h4)
        | (go_at_call 36; refine (K1.out.2.1.out _ rfl).mono ?_; rintro e w5 ⟨v5, rfl, h5, hb5⟩; obtain ⟨pu, A5, l5, k5, rfl, H5⟩ := h5.parts; have D5 := K1.out.1.keep hb5; have HS2 := D5.ld; have HS3 := (D5.set2 pr A6 l6 k6).ld; have HS4 := ((D5.set2 pr A6 l6 k6).set3 pu A5 l5 k5).ld; obtain ⟨x2, x3⟩ := D5.1.2.2.1.facts; obtain ⟨e2, f2, x0, x1⟩ := D5.1.2.2.1.cells; obtain ⟨y2, y3⟩ := (D5.set2 pr A6 l6 k6).1.2.2.2.1.facts; obtain ⟨e3, f3, y0, y1⟩ := (D5.set2 pr A6 l6 k6).1.2.2.2.1.cells; have K2 := Lib.hid (And.intro D5 (And.intro h5 (below_trans K1.out.2.2 hb5))); clear D5 h5 hb5))
    clear c0 c1 c2 c3 c4 c5 x0 x1 x2 x3 y0 y1 y2 y3 HS0 HS1 HS2 HS3 HS4
    go_wp2_with fail
    refine ret_dv K2.out.1 (fun W d0 d1 d2 d3 => by simp [results, Tryz.results19, go_sem, d0, d1, d2, d3]) rfl (fun W' hW hbW => ?_)
    exact ⟨_, _, rfl, hW.out _ _ _ (H7.out.2.1.keep K2.out.2.2), hW.out _ _ _ K2.out.2.1, hbW⟩
set_option maxRecDepth 100000 in
set_option maxHeartbeats 2000000 in
theorem divFloor_nn_true {w : World} {L1 L2 m n : Nat} {p : Bool} {As : Option Addr} {ls cs : Nat} {t : Value} {x y z : Int} (ha : Zd w L1 (.agg #[.bool p, .slice As ls cs]) x) (hb : Zd w L2 (.agg #[.bool true, t]) y) (hm : x.natAbs = m) (hn : y.natAbs = n) (h1 : L1 ≤ 1048576) (h2 : L2 ≤ 1048576) (h0 : n ≠ 0) (hx : decide ((-x) < 0) = false) (hz : z = sg false (m / n)) :
    Calls Tryz.prog 19 #[.agg #[.bool p, .slice As ls cs], .agg #[.bool true, t]] w fun e w' => ∃ v u, e = .returned (.tuple #[v, u]) ∧ Zd w' (L1 + 9) v z ∧ Zd w' (L1 + (L1 + 9 + L2) + 1) u (x - z * y) ∧ Below w.heap.size w w' := by
  have hs : Dn w L1 (.slice As ls cs) m := by obtain ⟨s', e, h⟩ := ha; rw [hm] at h; injection e with e; injection e with e; simp only [List.cons.injEq] at e; rw [e.2.1]; exact h
  have ht : Dn w L2 t n := by obtain ⟨s', e, h⟩ := hb; rw [hn] at h; injection e with e; injection e with e; simp only [List.cons.injEq] at e; rw [e.2.1]; exact h
  have hneg := fun W (hb : Below w.heap.size w W) => neg_d (ha.keep hb) (by omega)
  have hdm := fun W s' (hb : Below w.heap.size w W) (h : Dn W L1 s' m) => divMod_dn h (ht.keep hb) h0 (by omega) (by omega)
  have hff := fun w1 v1 (h : Dn w1 L1 v1 (m / n)) => form_d false h (by omega)
  have hft := fun w1 v1 (h : Dn w1 L1 v1 (m / n)) => form_d true h (by omega)
  have hlast := fun W v3 (hb0 : Below w.heap.size w W) (hq : Zd W (L1 + 9) v3 z) => lastOf ha hb h1 h2 hb0 hq
  have hone := fun W => small_d (w := W) (z := 1) (by unfold Small64; omega)
  have hsub := fun W v1 v2 (h3 : Zd W L1 v1 (sg true (m / n))) (h4 : Zd W 7 v2 1) => sub_d h3 h4 (by omega) (by omega)
  have hnp : (-x).natAbs = m := by rw [Int.natAbs_neg]; exact hm
  have HS := Lib.hid hs
  have HX := Lib.hid (And.intro hx hnp)
  have HA := Lib.hid (And.intro hdm (And.intro hff (And.intro hft (And.intro hlast (And.intro hone hsub)))))
  have HN := Lib.hid hneg
  have HZ := Lib.hid hz
  clear hneg hdm hff hft hlast hone hsub hs ht ha hb hm hn h1 h2 h0 hx hz hnp
  have N0 := nv5 w (.bool p) (.slice As ls cs) (.bool true) t (.bool p) (.slice As ls cs)
  have X0 := bx4 w (.cells #[.bool p, .slice As ls cs] 33) (.cells #[.bool true, t] 33) (.cells #[.bool false, .slice none 0 0] 33) (.cells #[.bool false, .slice none 0 0] 33) (.bool p) (.slice As ls cs)
  go_enter Tryz.func19, Tryz.ntmps19
  go_upto_region 2 with (fail)
  generalize ((((w.alloc _).alloc _).alloc _).alloc _).alloc _ = W0 at N0 X0 ⊢
  obtain ⟨c0, c1, c2, c3⟩ := N0.ld
  obtain ⟨x0, x1, x2, x3⟩ := X0.facts
  have H0 := Lib.hid (And.intro N0 X0)
  clear N0 X0
  go_wp2_with fail
  refine (HN.out _ H0.out.1.2.2.2.2).mono ?_; rintro e w1 ⟨v1, rfl, h1, hb1⟩
  obtain ⟨s1, rfl, h1⟩ := h1
  rw [HX.out.1, HX.out.2] at *
  obtain ⟨⟨A1, k1, rfl, h1a⟩, h1b⟩ := h1
  obtain ⟨la1, hla1⟩ : ∃ la1, la1 = (dg TB m).length := ⟨_, rfl⟩
  have h1 : Dn w1 L1 (.slice A1 la1 k1) m := ⟨⟨A1, k1, by rw [hla1], h1a⟩, h1b⟩
  rw [← hla1]
  clear h1a h1b hla1
  have N1 := H0.out.1.keep hb1
  have X1 := H0.out.2.keep hb1
  have Y1 := N1.seto X1 (by omega) (.bool false) (.slice A1 la1 k1)
  have S1 := X1.set (.bool false) (.slice A1 la1 k1)
  have Z1 := h1.put X1 (.bool false) (.slice A1 la1 k1)
  clear c0 c1 c2 c3 x0 x1 x2 x3
  obtain ⟨c0, c1, c2, c3⟩ := N1.ld
  obtain ⟨x0, x1, x2, x3⟩ := X1.facts
  clear N1 X1 h1 hb1
  go_upto_region 4 with (fail)
  generalize (w1.setCell _ _).setCell _ _ = W1 at Y1 S1 Z1 ⊢
  clear c0 c1 c2 c3 x0 x1 x2 x3
  obtain ⟨c0, c1, c2, c3⟩ := Y1.ld
  obtain ⟨x0, x1, -, -⟩ := S1.facts
  have H0 := Lib.hid (And.intro Y1 (And.intro S1 Z1))
  clear Y1 S1 Z1
  go_wp2_with fail
  refine (HA.out.1 _ _ H0.out.1.2.2.2.2 H0.out.2.2).mono ?_; rintro e w2 ⟨v2, v3, rfl, h2, h3, hb2⟩
  have N2 := H0.out.1.keep hb2
  have X2 := H0.out.2.1.keep hb2
  clear c0 c1 c2 c3 x0 x1
  obtain ⟨c0, c1, c2, c3⟩ := N2.ld
  obtain ⟨x0, x1, -, -⟩ := X2.facts
  obtain ⟨⟨A2, k2, rfl, -⟩, -⟩ := h3
  obtain ⟨lr, hlr⟩ : ∃ lr, lr = (dg TB (m % n)).length := ⟨_, rfl⟩
  rw [← hlr]
  clear hlr
  have H2 := Lib.hid (And.intro N2 (And.intro X2 h2))
  clear N2 X2 h2 hb2 H0
  go_wp2_with fail
  refine (HA.out.2.1 _ _ H2.out.2.2).mono ?_; rintro e w3 ⟨v4, rfl, h4, hb3⟩
  obtain ⟨pz, A, la, c, rfl, H4'⟩ := h4.parts
  have N3 : Dv w (w3.alloc (.cells #[.bool pz, .slice A la c] 33)) (.bool p) (.slice As ls cs) (.bool true) t w3.heap.size (.bool pz) (.slice A la c) := ⟨(H2.out.1.keep hb3).keep (below_al _ _), Bx.new _ _ _ _, (H2.out.1.keep hb3).2.2.2.1.lt⟩
  have X3 := (H2.out.2.1.keep hb3).keep (below_al w3 (.cells #[.bool pz, .slice A la c] 33))
  have Q3 := h4.keep (below_al w3 (.cells #[.bool pz, .slice A la c] 33))
  have R3 := (H2.out.2.2.keep hb3).keep (below_al w3 (.cells #[.bool pz, .slice A la c] 33))
  clear h4 H4' hb3 H2 c0 c1 c2 c3 x0 x1
  go_upto_region 6 with (fail)
  obtain ⟨g, hg⟩ : ∃ g, g = w3.heap.size := ⟨_, rfl⟩
  generalize w3.alloc _ = W3 at N3 X3 Q3 R3 ⊢
  rw [← hg] at N3 ⊢
  clear hg
  obtain ⟨c0, c1, c2, c3, c4, c5⟩ := N3.ld
  obtain ⟨x0, x1, -, -⟩ := X3.facts
  rw [← HZ.out] at Q3
  have Q3 := Q3.mono (L' := L1 + 9) (by omega)
  have H3 := Lib.hid (And.intro N3 (And.intro Q3 (HA.out.2.2.2.1 _ _ N3.below Q3)))
  have HS0 := N3.ld
  have HS1 := HS0
  have HS2 := HS0
  have HS3 := HS0
  have HS4 := HS0
  clear N3 Q3 R3 X3
  go_upto_region 10 with (fail)
  clear x0 x1
  go_region_held3 (fun W => W.cell? ⟨w.heap.size, 0, none⟩ = some (.bool p) ∧ W.cell? ⟨w.heap.size, 1, none⟩ = some (.slice As ls cs) ∧ W.cell? ⟨w.heap.size + 1, 0, none⟩ = some (.bool true) ∧ W.cell? ⟨w.heap.size + 1, 1, none⟩ = some t ∧ W.cell? ⟨g, 0, none⟩ = some (.bool pz) ∧ W.cell? ⟨g, 1, none⟩ = some (.slice A la c)) (first | with_reducible exact HS1 | with_reducible exact HS2 | with_reducible exact HS3 | with_reducible exact HS4 | exact HS0)
    (first
      | (go_at_call 37; refine (H3.out.2.2 _ (by exact below_dr _ 1)).out.mono ?_; rintro e w4 ⟨v4, rfl, hb4, h4⟩; have HS1 := (H3.out.1.keep (below_trans (below_dr _ 1) hb4)).ld; have K1 := Lib.hid (And.intro (H3.out.1.keep (below_trans (below_dr _ 1) hb4)) (And.intro h4 (below_trans (below_dr _ 1) hb4))); clear hb4 h4)
      | (go_at_call 36; refine (K1.out.2.1.out _ rfl).mono ?_; rintro e w5 ⟨v5, rfl, h5, hb5⟩; obtain ⟨pu, A5, l5, k5, rfl, H5⟩ := h5.parts; have D5 := K1.out.1.keep hb5; have HS2 := D5.ld; have HS3 := (D5.set2 pz A la c).ld; have HS4 := ((D5.set2 pz A la c).set3 pu A5 l5 k5).ld; obtain ⟨x2, x3⟩ := D5.1.2.2.1.facts; obtain ⟨e2, f2, x0, x1⟩ := D5.1.2.2.1.cells; obtain ⟨y2, y3⟩ := (D5.set2 pz A la c).1.2.2.2.1.facts; obtain ⟨e3, f3, y0, y1⟩ := (D5.set2 pz A la c).1.2.2.2.1.cells; have K2 := Lib.hid (And.intro D5 (And.intro h5 (below_trans K1.out.2.2 hb5))); clear D5 h5 hb5))
  clear c0 c1 c2 c3 c4 c5 x0 x1 x2 x3 y0 y1 y2 y3 HS0 HS1 HS2 HS3 HS4
  go_wp2_with fail
  refine ret_dv K2.out.1 (fun W d0 d1 d2 d3 => by simp [results, Tryz.results19, go_sem, d0, d1, d2, d3]) rfl (fun W' hW hbW => ?_)
  exact ⟨_, _, rfl, hW.out _ _ _ (H3.out.2.1.keep K2.out.2.2), hW.out _ _ _ K2.out.2.1, hbW⟩
set_option maxRecDepth 100000 in
set_option maxHeartbeats 2000000 in
theorem divFloor_ev_true {w : World} {L1 L2 m n : Nat} {p : Bool} {As : Option Addr} {ls cs : Nat} {t : Value} {x y z : Int} (ha : Zd w L1 (.agg #[.bool p, .slice As ls cs]) x) (hb : Zd w L2 (.agg #[.bool true, t]) y) (hm : x.natAbs = m) (hn : y.natAbs = n) (h1 : L1 ≤ 1048576) (h2 : L2 ≤ 1048576) (h0 : n ≠ 0) (hx : decide ((-x) < 0) = true) (hr : m % n = 0) (hz : z = sg true (m / n)) :
    Calls Tryz.prog 19 #[.agg #[.bool p, .slice As ls cs], .agg #[.bool true, t]] w fun e w' => ∃ v u, e = .returned (.tuple #[v, u]) ∧ Zd w' (L1 + 9) v z ∧ Zd w' (L1 + (L1 + 9 + L2) + 1) u (x - z * y) ∧ Below w.heap.size w w' := by
  have hs : Dn w L1 (.slice As ls cs) m := by obtain ⟨s', e, h⟩ := ha; rw [hm] at h; injection e with e; injection e with e; simp only [List.cons.injEq] at e; rw [e.2.1]; exact h
  have ht : Dn w L2 t n := by obtain ⟨s', e, h⟩ := hb; rw [hn] at h; injection e with e; injection e with e; simp only [List.cons.injEq] at e; rw [e.2.1]; exact h
  have hneg := fun W (hb : Below w.heap.size w W) => neg_d (ha.keep hb) (by omega)
  have hdm := fun W s' (hb : Below w.heap.size w W) (h : Dn W L1 s' m) => divMod_dn h (ht.keep hb) h0 (by omega) (by omega)
  have hff := fun w1 v1 (h : Dn w1 L1 v1 (m / n)) => form_d false h (by omega)
  have hft := fun w1 v1 (h : Dn w1 L1 v1 (m / n)) => form_d true h (by omega)
  have hlast := fun W v3 (hb0 : Below w.heap.size w W) (hq : Zd W (L1 + 9) v3 z) => lastOf ha hb h1 h2 hb0 hq
  have hone := fun W => small_d (w := W) (z := 1) (by unfold Small64; omega)
  have hsub := fun W v1 v2 (h3 : Zd W L1 v1 (sg true (m / n))) (h4 : Zd W 7 v2 1) => sub_d h3 h4 (by omega) (by omega)
  have hnp : (-x).natAbs = m := by rw [Int.natAbs_neg]; exact hm
  have HS := Lib.hid hs
  have HX := Lib.hid (And.intro hx hnp)
  have HA := Lib.hid (And.intro hdm (And.intro hff (And.intro hft (And.intro hlast (And.intro hone hsub)))))
  have HN := Lib.hid hneg
  have HZ := Lib.hid hz
  have HR := Lib.hid hr
  clear hneg hdm hff hft hlast hone hsub hs ht ha hb hm hn h1 h2 h0 hx hz hnp hr
  have N0 := nv5 w (.bool p) (.slice As ls cs) (.bool true) t (.bool p) (.slice As ls cs)
  have X0 := bx4 w (.cells #[.bool p, .slice As ls cs] 33) (.cells #[.bool true, t] 33) (.cells #[.bool false, .slice none 0 0] 33) (.cells #[.bool false, .slice none 0 0] 33) (.bool p) (.slice As ls cs)
  go_enter Tryz.func19, Tryz.ntmps19
  go_upto_region 2 with (fail)
  generalize ((((w.alloc _).alloc _).alloc _).alloc _).alloc _ = W0 at N0 X0 ⊢
  obtain ⟨c0, c1, c2, c3⟩ := N0.ld
  obtain ⟨x0, x1, x2, x3⟩ := X0.facts
  have H0 := Lib.hid (And.intro N0 X0)
  clear N0 X0
  go_wp2_with fail
  refine (HN.out _ H0.out.1.2.2.2.2).mono ?_; rintro e w1 ⟨v1, rfl, h1, hb1⟩
  obtain ⟨s1, rfl, h1⟩ := h1
  rw [HX.out.1, HX.out.2] at *
  obtain ⟨⟨A1, k1, rfl, h1a⟩, h1b⟩ := h1
  obtain ⟨la1, hla1⟩ : ∃ la1, la1 = (dg TB m).length := ⟨_, rfl⟩
  have h1 : Dn w1 L1 (.slice A1 la1 k1) m := ⟨⟨A1, k1, by rw [hla1], h1a⟩, h1b⟩
  rw [← hla1]
  clear h1a h1b hla1
  have N1 := H0.out.1.keep hb1
  have X1 := H0.out.2.keep hb1
  have Y1 := N1.seto X1 (by omega) (.bool true) (.slice A1 la1 k1)
  have S1 := X1.set (.bool true) (.slice A1 la1 k1)
  have Z1 := h1.put X1 (.bool true) (.slice A1 la1 k1)
  clear c0 c1 c2 c3 x0 x1 x2 x3
  obtain ⟨c0, c1, c2, c3⟩ := N1.ld
  obtain ⟨x0, x1, x2, x3⟩ := X1.facts
  clear N1 X1 h1 hb1
  go_upto_region 4 with (fail)
  generalize (w1.setCell _ _).setCell _ _ = W1 at Y1 S1 Z1 ⊢
  clear c0 c1 c2 c3 x0 x1 x2 x3
  obtain ⟨c0, c1, c2, c3⟩ := Y1.ld
  obtain ⟨x0, x1, -, -⟩ := S1.facts
  have H0 := Lib.hid (And.intro Y1 (And.intro S1 Z1))
  clear Y1 S1 Z1
  go_wp2_with fail
  refine (HA.out.1 _ _ H0.out.1.2.2.2.2 H0.out.2.2).mono ?_; rintro e w2 ⟨v2, v3, rfl, h2, h3, hb2⟩
  have N2 := H0.out.1.keep hb2
  have X2 := H0.out.2.1.keep hb2
  clear c0 c1 c2 c3 x0 x1
  obtain ⟨c0, c1, c2, c3⟩ := N2.ld
  obtain ⟨x0, x1, -, -⟩ := X2.facts
  obtain ⟨⟨A2, k2, rfl, -⟩, -⟩ := h3
  obtain ⟨lr, hlr⟩ : ∃ lr, lr = (dg TB (m % n)).length := ⟨_, rfl⟩
  rw [← hlr]
  have hl0 : ¬ (0 : Int) < (lr : Int) := by rw [hlr, HR.out, dg_zero]; simp
  clear hlr
  have H2 := Lib.hid (And.intro N2 (And.intro X2 h2))
  clear N2 X2 h2 hb2 H0
  go_wp2_with fail
  refine (HA.out.2.1 _ _ H2.out.2.2).mono ?_; rintro e w3 ⟨v4, rfl, h4, hb3⟩
  obtain ⟨pz, A, la, c, rfl, H4'⟩ := h4.parts
  have N3 : Dv w (w3.alloc (.cells #[.bool pz, .slice A la c] 33)) (.bool p) (.slice As ls cs) (.bool true) t w3.heap.size (.bool pz) (.slice A la c) := ⟨(H2.out.1.keep hb3).keep (below_al _ _), Bx.new _ _ _ _, (H2.out.1.keep hb3).2.2.2.1.lt⟩
  have X3 := (H2.out.2.1.keep hb3).keep (below_al w3 (.cells #[.bool pz, .slice A la c] 33))
  have Q3 := h4.keep (below_al w3 (.cells #[.bool pz, .slice A la c] 33))
  have R3 := (H2.out.2.2.keep hb3).keep (below_al w3 (.cells #[.bool pz, .slice A la c] 33))
  clear h4 H4' hb3 H2 c0 c1 c2 c3 x0 x1
  go_upto_region 6 with (fail)
  obtain ⟨g, hg⟩ : ∃ g, g = w3.heap.size := ⟨_, rfl⟩
  generalize w3.alloc _ = W3 at N3 X3 Q3 R3 ⊢
  rw [← hg] at N3 ⊢
  clear hg
  obtain ⟨c0, c1, c2, c3, c4, c5⟩ := N3.ld
  obtain ⟨x0, x1, -, -⟩ := X3.facts
  obtain ⟨-, -, g2, g3⟩ := N3.2.1.facts
  have H3 := Lib.hid (And.intro N3 R3)
  clear N3 X3 Q3 R3
  go_wp2_with fail
  refine (HA.out.2.2.1 _ _ H3.out.2).mono ?_; rintro e w4 ⟨v5, rfl, h5, hb4⟩
  obtain ⟨py, A7, l7, k7, rfl, H5'⟩ := h5.parts
  clear c0 c1 c2 c3 c4 c5 x0 x1 g2 g3
  have N4 := H3.out.1.keep hb4
  obtain ⟨c0, c1, c2, c3, c4, c5⟩ := N4.ld
  obtain ⟨-, -, g2, g3⟩ := N4.2.1.facts
  have D4 := N4.setq (.bool py) (.slice A7 l7 k7)
  have Q4 := h5.put N4.2.1 (.bool py) (.slice A7 l7 k7)
  clear N4 h5 H5' hb4 H3
  go_upto_region 8 with (fail)
  generalize (w4.setCell _ _).setCell _ _ = W4 at D4 Q4 ⊢
  clear c0 c1 c2 c3 c4 c5 g2 g3
  obtain ⟨c0, c1, c2, c3, c4, c5⟩ := D4.ld
  rw [← HZ.out] at Q4
  have Q4 := Q4.mono (L' := L1 + 9) (by omega)
  have H4 := Lib.hid (And.intro D4 (And.intro Q4 (HA.out.2.2.2.1 _ _ D4.below Q4)))
  have HS0 := D4.ld
  have HS1 := HS0
  have HS2 := HS0
  have HS3 := HS0
  have HS4 := HS0
  clear D4 Q4
  go_upto_region 10 with (fail)
  go_region_held3 (fun W => W.cell? ⟨w.heap.size, 0, none⟩ = some (.bool p) ∧ W.cell? ⟨w.heap.size, 1, none⟩ = some (.slice As ls cs) ∧ W.cell? ⟨w.heap.size + 1, 0, none⟩ = some (.bool true) ∧ W.cell? ⟨w.heap.size + 1, 1, none⟩ = some t ∧ W.cell? ⟨g, 0, none⟩ = some (.bool py) ∧ W.cell? ⟨g, 1, none⟩ = some (.slice A7 l7 k7)) (first | with_reducible exact HS1 | with_reducible exact HS2 | with_reducible exact HS3 | with_reducible exact HS4 | exact HS0)
    (first
      | (go_at_call 37; refine (H4.out.2.2 _ (by exact below_dr _ 1)).out.mono ?_; rintro e w4 ⟨v4, rfl, hb4, h4⟩; have HS1 := (H4.out.1.keep (below_trans (below_dr _ 1) hb4)).ld; have K1 := Lib.hid (And.intro (H4.out.1.keep (below_trans (below_dr _ 1) hb4)) (And.intro h4 (below_trans (below_dr _ 1) hb4))); clear hb4 h4)
      | (go_at_call 36; refine (K1.out.2.1.out _ rfl).mono ?_; rintro e w5 ⟨v5, rfl, h5, hb5⟩; obtain ⟨pu, A5, l5, k5, rfl, H5⟩ := h5.parts; have D5 := K1.out.1.keep hb5; have HS2 := D5.ld; have HS3 := (D5.set2 py A7 l7 k7).ld; have HS4 := ((D5.set2 py A7 l7 k7).set3 pu A5 l5 k5).ld; obtain ⟨x2, x3⟩ := D5.1.2.2.1.facts; obtain ⟨e2, f2, x0, x1⟩ := D5.1.2.2.1.cells; obtain ⟨y2, y3⟩ := (D5.set2 py A7 l7 k7).1.2.2.2.1.facts; obtain ⟨e3, f3, y0, y1⟩ := (D5.set2 py A7 l7 k7).1.2.2.2.1.cells; have K2 := Lib.hid (And.intro D5 (And.intro h5 (below_trans K1.out.2.2 hb5))); clear D5 h5 hb5))
  clear c0 c1 c2 c3 c4 c5 x0 x1 x2 x3 y0 y1 y2 y3 HS0 HS1 HS2 HS3 HS4
  go_wp2_with fail
  refine ret_dv K2.out.1 (fun W d0 d1 d2 d3 => by simp [results, Tryz.results19, go_sem, d0, d1, d2, d3]) rfl (fun W' hW hbW => ?_)
  exact ⟨_, _, rfl, hW.out _ _ _ (H4.out.2.1.keep K2.out.2.2), hW.out _ _ _ K2.out.2.1, hbW⟩
set_option maxRecDepth 100000 in
set_option maxHeartbeats 2000000 in
theorem divFloor_one_true {w : World} {L1 L2 m n : Nat} {p : Bool} {As : Option Addr} {ls cs : Nat} {t : Value} {x y z : Int} (ha : Zd w L1 (.agg #[.bool p, .slice As ls cs]) x) (hb : Zd w L2 (.agg #[.bool true, t]) y) (hm : x.natAbs = m) (hn : y.natAbs = n) (h1 : L1 ≤ 1048576) (h2 : L2 ≤ 1048576) (h0 : n ≠ 0) (hx : decide ((-x) < 0) = true) (hr : m % n ≠ 0) (hz : z = sg true (m / n) - 1) :
    Calls Tryz.prog 19 #[.agg #[.bool p, .slice As ls cs], .agg #[.bool true, t]] w fun e w' => ∃ v u, e = .returned (.tuple #[v, u]) ∧ Zd w' (L1 + 9) v z ∧ Zd w' (L1 + (L1 + 9 + L2) + 1) u (x - z * y) ∧ Below w.heap.size w w' := by
  have hs : Dn w L1 (.slice As ls cs) m := by obtain ⟨s', e, h⟩ := ha; rw [hm] at h; injection e with e; injection e with e; simp only [List.cons.injEq] at e; rw [e.2.1]; exact h
  have ht : Dn w L2 t n := by obtain ⟨s', e, h⟩ := hb; rw [hn] at h; injection e with e; injection e with e; simp only [List.cons.injEq] at e; rw [e.2.1]; exact h
  have hneg := fun W (hb : Below w.heap.size w W) => neg_d (ha.keep hb) (by omega)
  have hdm := fun W s' (hb : Below w.heap.size w W) (h : Dn W L1 s' m) => divMod_dn h (ht.keep hb) h0 (by omega) (by omega)
  have hff := fun w1 v1 (h : Dn w1 L1 v1 (m / n)) => form_d false h (by omega)
  have hft := fun w1 v1 (h : Dn w1 L1 v1 (m / n)) => form_d true h (by omega)
  have hlast := fun W v3 (hb0 : Below w.heap.size w W) (hq : Zd W (L1 + 9) v3 z) => lastOf ha hb h1 h2 hb0 hq
  have hone := fun W => small_d (w := W) (z := 1) (by unfold Small64; omega)
  have hsub := fun W v1 v2 (h3 : Zd W L1 v1 (sg true (m / n))) (h4 : Zd W 7 v2 1) => sub_d h3 h4 (by omega) (by omega)
  have hnp : (-x).natAbs = m := by rw [Int.natAbs_neg]; exact hm
  have HS := Lib.hid hs
  have HX := Lib.hid (And.intro hx hnp)
  have HA := Lib.hid (And.intro hdm (And.intro hff (And.intro hft (And.intro hlast (And.intro hone hsub)))))
  have HN := Lib.hid hneg
  have HZ := Lib.hid hz
  have HR := Lib.hid hr
  clear hneg hdm hff hft hlast hone hsub hs ht ha hb hm hn h1 h2 h0 hx hz hnp hr
  have N0 := nv5 w (.bool p) (.slice As ls cs) (.bool true) t (.bool p) (.slice As ls cs)
  have X0 := bx4 w (.cells #[.bool p, .slice As ls cs] 33) (.cells #[.bool true, t] 33) (.cells #[.bool false, .slice none 0 0] 33) (.cells #[.bool false, .slice none 0 0] 33) (.bool p) (.slice As ls cs)
  go_enter Tryz.func19, Tryz.ntmps19
  go_upto_region 2 with (fail)
  generalize ((((w.alloc _).alloc _).alloc _).alloc _).alloc _ = W0 at N0 X0 ⊢
  obtain ⟨c0, c1, c2, c3⟩ := N0.ld
  obtain ⟨x0, x1, x2, x3⟩ := X0.facts
  have H0 := Lib.hid (And.intro N0 X0)
  clear N0 X0
  go_wp2_with fail
  refine (HN.out _ H0.out.1.2.2.2.2).mono ?_; rintro e w1 ⟨v1, rfl, h1, hb1⟩
  obtain ⟨s1, rfl, h1⟩ := h1
  rw [HX.out.1, HX.out.2] at *
  obtain ⟨⟨A1, k1, rfl, h1a⟩, h1b⟩ := h1
  obtain ⟨la1, hla1⟩ : ∃ la1, la1 = (dg TB m).length := ⟨_, rfl⟩
  have h1 : Dn w1 L1 (.slice A1 la1 k1) m := ⟨⟨A1, k1, by rw [hla1], h1a⟩, h1b⟩
  rw [← hla1]
  clear h1a h1b hla1
  have N1 := H0.out.1.keep hb1
  have X1 := H0.out.2.keep hb1
  have Y1 := N1.seto X1 (by omega) (.bool true) (.slice A1 la1 k1)
  have S1 := X1.set (.bool true) (.slice A1 la1 k1)
  have Z1 := h1.put X1 (.bool true) (.slice A1 la1 k1)
  clear c0 c1 c2 c3 x0 x1 x2 x3
  obtain ⟨c0, c1, c2, c3⟩ := N1.ld
  obtain ⟨x0, x1, x2, x3⟩ := X1.facts
  clear N1 X1 h1 hb1
  go_upto_region 4 with (fail)
  generalize (w1.setCell _ _).setCell _ _ = W1 at Y1 S1 Z1 ⊢
  clear c0 c1 c2 c3 x0 x1 x2 x3
  obtain ⟨c0, c1, c2, c3⟩ := Y1.ld
  obtain ⟨x0, x1, -, -⟩ := S1.facts
  have H0 := Lib.hid (And.intro Y1 (And.intro S1 Z1))
  clear Y1 S1 Z1
  go_wp2_with fail
  refine (HA.out.1 _ _ H0.out.1.2.2.2.2 H0.out.2.2).mono ?_; rintro e w2 ⟨v2, v3, rfl, h2, h3, hb2⟩
  have N2 := H0.out.1.keep hb2
  have X2 := H0.out.2.1.keep hb2
  clear c0 c1 c2 c3 x0 x1
  obtain ⟨c0, c1, c2, c3⟩ := N2.ld
  obtain ⟨x0, x1, -, -⟩ := X2.facts
  obtain ⟨⟨A2, k2, rfl, -⟩, -⟩ := h3
  obtain ⟨lr, hlr⟩ : ∃ lr, lr = (dg TB (m % n)).length := ⟨_, rfl⟩
  rw [← hlr]
  have hl0 : (0 : Int) < (lr : Int) := by
    have : lr ≠ 0 := fun h => HR.out ((dg_eq_nil TB_one _).1 (List.eq_nil_of_length_eq_zero (hlr ▸ h)))
    omega
  clear hlr
  have H2 := Lib.hid (And.intro N2 (And.intro X2 h2))
  clear N2 X2 h2 hb2 H0
  go_wp2_with fail
  refine (HA.out.2.1 _ _ H2.out.2.2).mono ?_; rintro e w3 ⟨v4, rfl, h4, hb3⟩
  obtain ⟨pz, A, la, c, rfl, H4'⟩ := h4.parts
  have N3 : Dv w (w3.alloc (.cells #[.bool pz, .slice A la c] 33)) (.bool p) (.slice As ls cs) (.bool true) t w3.heap.size (.bool pz) (.slice A la c) := ⟨(H2.out.1.keep hb3).keep (below_al _ _), Bx.new _ _ _ _, (H2.out.1.keep hb3).2.2.2.1.lt⟩
  have X3 := (H2.out.2.1.keep hb3).keep (below_al w3 (.cells #[.bool pz, .slice A la c] 33))
  have Q3 := h4.keep (below_al w3 (.cells #[.bool pz, .slice A la c] 33))
  have R3 := (H2.out.2.2.keep hb3).keep (below_al w3 (.cells #[.bool pz, .slice A la c] 33))
  clear h4 H4' hb3 H2 c0 c1 c2 c3 x0 x1
  go_upto_region 6 with (fail)
  obtain ⟨g, hg⟩ : ∃ g, g = w3.heap.size := ⟨_, rfl⟩
  generalize w3.alloc _ = W3 at N3 X3 Q3 R3 ⊢
  rw [← hg] at N3 ⊢
  clear hg
  obtain ⟨c0, c1, c2, c3, c4, c5⟩ := N3.ld
  obtain ⟨x0, x1, -, -⟩ := X3.facts
  obtain ⟨-, -, g2, g3⟩ := N3.2.1.facts
  have H3 := Lib.hid (And.intro N3 R3)
  clear N3 X3 Q3 R3
  go_wp2_with fail
  refine (HA.out.2.2.1 _ _ H3.out.2).mono ?_; rintro e w4 ⟨v5, rfl, h5, hb4⟩
  obtain ⟨py, A7, l7, k7, rfl, H5'⟩ := h5.parts
  clear c0 c1 c2 c3 c4 c5 x0 x1 g2 g3
  have N4 := H3.out.1.keep hb4
  obtain ⟨c0, c1, c2, c3, c4, c5⟩ := N4.ld
  obtain ⟨-, -, g2, g3⟩ := N4.2.1.facts
  have D4 := N4.setq (.bool py) (.slice A7 l7 k7)
  have Q4 := h5.put N4.2.1 (.bool py) (.slice A7 l7 k7)
  clear N4 h5 H5' hb4 H3
  go_upto_region 8 with (fail)
  generalize (w4.setCell _ _).setCell _ _ = W4 at D4 Q4 ⊢
  clear c0 c1 c2 c3 c4 c5 g2 g3
  obtain ⟨c0, c1, c2, c3, c4, c5⟩ := D4.ld
  have H4 := Lib.hid (And.intro D4 Q4)
  clear D4 Q4
  go_upto_region 9 with (fail)
  go_region_with (first
    | (go_at_call 40; refine (HA.out.2.2.2.2.1 _).mono ?_; rintro e w5 ⟨v6, rfl, h6, hb5⟩; have D5 := (H4.out.1.keep (below_dr _ 1)).keep hb5; have Q5 := (H4.out.2.keep (below_dr _ 1)).keep hb5; obtain ⟨-, -, -, -, c4, c5⟩ := D5.ld; have K1 := Lib.hid (And.intro D5 (HA.out.2.2.2.2.2 _ _ _ Q5 h6)); clear D5 Q5 h6 hb5)
    | (go_at_call 36; refine K1.out.2.mono ?_; rintro e w6 ⟨v7, rfl, h7, hb6⟩; obtain ⟨pr, A6, l6, k6, rfl, H6⟩ := h7.parts; have D6 := K1.out.1.keep hb6; obtain ⟨-, -, -, -, c4, c5⟩ := D6.ld; obtain ⟨x0, x1, x2, x3⟩ := D6.2.1.facts; have K2 := Lib.hid (And.intro D6 h7); clear D6 h7 hb6))
  all_goals
    have D7 := K2.out.1.setq (.bool pr) (.slice A6 l6 k6)
    have Q7 := K2.out.2.put K2.out.1.2.1 (.bool pr) (.slice A6 l6 k6)
    generalize (w6.setCell _ _).setCell _ _ = W6 at D7 Q7 ⊢
    rw [← HZ.out] at Q7
    have Q7 := Q7.mono (L' := L1 + 9) (by omega)
    have H7 := Lib.hid (And.intro D7 (And.intro Q7 (HA.out.2.2.2.1 _ _ D7.below Q7)))
    have HS0 := D7.ld
    have HS1 := HS0
    have HS2 := HS0
    have HS3 := HS0
    have HS4 := HS0
    clear c0 c1 c2 c3 c4 c5 D7 Q7 x0 x1 x2 x3 K1 K2 H4
    obtain ⟨c0, c1, c2, c3, c4, c5⟩ := H7.out.1.ld
    go_upto_region 10 with (fail)
    go_region_held3 (fun W => W.cell? ⟨w.heap.size, 0, none⟩ = some (.bool p) ∧ W.cell? ⟨w.heap.size, 1, none⟩ = some (.slice As ls cs) ∧ W.cell? ⟨w.heap.size + 1, 0, none⟩ = some (.bool true) ∧ W.cell? ⟨w.heap.size + 1, 1, none⟩ = some t ∧ W.cell? ⟨g, 0, none⟩ = some (.bool pr) ∧ W.cell? ⟨g, 1, none⟩ = some (.slice A6 l6 k6)) (first | with_reducible exact HS1 | with_reducible exact HS2 | with_reducible exact HS3 | with_reducible exact HS4 | exact HS0)
      (first
        | (go_at_call 37; refine (H7.out.2.2 _ (by exact below_dr _ 1)).out.mono ?_; rintro e w4 ⟨v4, rfl, hb4, h4⟩; have HS1 := (H7.out.1.keep (below_trans (below_dr _ 1) hb4)).ld; have K1 := Lib.hid (And.intro (H7.out.1.keep (below_trans (below_dr _ 1) hb4)) (And.intro h4 (below_trans (below_dr _ 1) hb4))); clear hb4 h4)
        | (go_at_call 36; refine (K1.out.2.1.out _ rfl).mono ?_; rintro e w5 ⟨v5, rfl, h5, hb5⟩; obtain ⟨pu, A5, l5, k5, rfl, H5⟩ := h5.parts; have D5 := K1.out.1.keep hb5; have HS2 := D5.ld; have HS3 := (D5.set2 pr A6 l6 k6).ld; have HS4 := ((D5.set2 pr A6 l6 k6).set3 pu A5 l5 k5).ld; obtain ⟨x2, x3⟩ := D5.1.2.2.1.facts; obtain ⟨e2, f2, x0, x1⟩ := D5.1.2.2.1.cells; obtain ⟨y2, y3⟩ := (D5.set2 pr A6 l6 k6).1.2.2.2.1.facts; obtain ⟨e3, f3, y0, y1⟩ := (D5.set2 pr A6 l6 k6).1.2.2.2.1.cells; have K2 := Lib.hid (And.intro D5 (And.intro h5 (below_trans K1.out.2.2 hb5))); clear D5 h5 hb5))
    clear c0 c1 c2 c3 c4 c5 x0 x1 x2 x3 y0 y1 y2 y3 HS0 HS1 HS2 HS3 HS4
    go_wp2_with fail
    refine ret_dv K2.out.1 (fun W d0 d1 d2 d3 => by simp [results, Tryz.results19, go_sem, d0, d1, d2, d3]) rfl (fun W' hW hbW => ?_)
    exact ⟨_, _, rfl, hW.out _ _ _ (H7.out.2.1.keep K2.out.2.2), hW.out _ _ _ K2.out.2.1, hbW⟩
theorem divFloor_d {w : World} {L1 L2 : Nat} {a b : Value} {x y : Int} (ha : Zd w L1 a x) (hb : Zd w L2 b y) (h1 : L1 ≤ 1048576) (h2 : L2 ≤ 1048576) (h0 : y ≠ 0) :
    Calls Tryz.prog 19 #[a, b] w fun e w' => ∃ v u, e = .returned (.tuple #[v, u]) ∧ Zd w' (L1 + 9) v (Int.fdiv x y) ∧ Zd w' (L1 + (L1 + 9 + L2) + 1) u (x - Int.fdiv x y * y) ∧ Below w.heap.size w w' := by
  have hx := sg_form x
  have hy := sg_form y
  obtain ⟨m, hm⟩ : ∃ m, x.natAbs = m := ⟨_, rfl⟩
  obtain ⟨n, hn⟩ : ∃ n, y.natAbs = n := ⟨_, rfl⟩
  have hn0 : n ≠ 0 := by omega
  have ha' := ha
  have hb' := hb
  obtain ⟨s, rfl, ⟨As, cs, rfl, -⟩, -⟩ := ha'
  obtain ⟨ls, hls⟩ : ∃ ls, ls = (dg TB x.natAbs).length := ⟨_, rfl⟩
  rw [← hls] at ha ⊢
  obtain ⟨t, rfl, -⟩ := hb'
  rw [hm] at hx
  rw [hn] at hy
  by_cases hy0 : y < 0
  · rw [decide_eq_true hy0] at hb hy ⊢
    by_cases hx0 : -x < 0
    · have hd : decide (x < 0) = false := decide_eq_false (by omega)
      rw [hd] at hx
      by_cases hr : m % n = 0
      · exact divFloor_ev_true ha hb hm hn h1 h2 hn0 (decide_eq_true hx0) hr (by rw [← hx, ← hy]; exact (fdiv_unlike false m n hn0).trans (by rw [if_pos hr]; simp [sg]))
      · exact divFloor_one_true ha hb hm hn h1 h2 hn0 (decide_eq_true hx0) hr (by rw [← hx, ← hy]; exact (fdiv_unlike false m n hn0).trans (by rw [if_neg hr]; simp [sg]))
    · refine divFloor_nn_true ha hb hm hn h1 h2 hn0 (decide_eq_false hx0) ?_
      by_cases hz : m = 0
      · have : x = 0 := by omega
        rw [this, hz]; simp [sg]
      · have hd : decide (x < 0) = true := decide_eq_true (by omega)
        rw [hd] at hx
        rw [← hx, ← hy, fdiv_same]; rfl
  · rw [decide_eq_false hy0] at hb hy ⊢
    by_cases hx0 : x < 0
    · rw [decide_eq_true hx0] at hx
      by_cases hr : m % n = 0
      · exact divFloor_ev_false ha hb hm hn h1 h2 hn0 (decide_eq_true hx0) hr (by rw [← hx, ← hy]; exact (fdiv_unlike true m n hn0).trans (by rw [if_pos hr]; simp [sg]))
      · exact divFloor_one_false ha hb hm hn h1 h2 hn0 (decide_eq_true hx0) hr (by rw [← hx, ← hy]; exact (fdiv_unlike true m n hn0).trans (by rw [if_neg hr]; simp [sg]))
    · rw [decide_eq_false hx0] at hx
      exact divFloor_nn_false ha hb hm hn h1 h2 hn0 (decide_eq_false hx0) (by rw [← hx, ← hy, fdiv_same]; rfl)
end I
end Go.Proofs.YtgbfpimdnmmfpaaGreatDoor
