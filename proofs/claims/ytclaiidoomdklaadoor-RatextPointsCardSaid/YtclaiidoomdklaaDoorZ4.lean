/-
  zint: DivFloor.
-/
import Derived.Test.YtclaiidoomdklaaDoorZ3
import Derived.Test.YtclaiidoomdklaaDoorZ5
namespace Go.Proofs.YtclaiidoomdklaaDoor
open Go Go.RowKit Go.Proofs Pl
set_option linter.unusedVariables false

theorem fdiv_lt {b c : Bool} {m n B p : Nat} (hB : 1 < B) (h0 : n ≠ 0) (hm : m < B ^ p) : (Int.fdiv (sg b m) (sg c n)).natAbs < B ^ (p + 1) := by
  have hle : m / n ≤ m := Nat.div_le_self _ _
  have h3 : B ^ p * 2 ≤ B ^ p * B := Nat.mul_le_mul_left _ hB
  have h4 : 0 < B ^ p := Nat.pow_pos (by omega)
  rw [Nat.pow_succ]
  by_cases hbc : b = c
  · subst hbc
    rw [fdiv_same, Int.natAbs_natCast]; omega
  · obtain rfl : c = !b := by cases b <;> cases c <;> simp_all
    rw [fdiv_unlike b m n h0]
    obtain ⟨k, hk⟩ : ∃ k, k = m / n := ⟨_, rfl⟩
    rw [← hk] at hle ⊢
    clear hk
    split <;> omega
/-- Four new variables. -/
def New4 (w W : World) (a b c d : Value) : Prop :=
  Bx 25 W w.heap.size a b ∧ Bx 25 W (w.heap.size + 1) c d ∧ (∃ e f, Bx 25 W (w.heap.size + 1 + 1) e f) ∧ (∃ e f, Bx 25 W (w.heap.size + 1 + 1 + 1) e f) ∧ Below w.heap.size w W
theorem new4 (w : World) (a b c d e f g h : Value) : New4 w ((((w.alloc (.cells #[a, b] 25)).alloc (.cells #[c, d] 25)).alloc (.cells #[e, f] 25)).alloc (.cells #[g, h] 25)) a b c d :=
  ⟨(((Bx.new _ w a b).alloc _).alloc _).alloc _, ((Bx.new1 _ w _ c d).alloc _).alloc _, ⟨e, f, (Bx.new2 _ w _ _ e f).alloc _⟩, ⟨g, h, Bx.new3 _ w _ _ _ g h⟩, by go_grown⟩
theorem New4.keep {w W W' : World} {a b c d : Value} (h : New4 w W a b c d) (hb : Below W.heap.size W W') : New4 w W' a b c d := by
  obtain ⟨h1, h2, ⟨e, f, h3⟩, ⟨g, k, h4⟩, h5⟩ := h
  exact ⟨h1.keep hb, h2.keep hb, ⟨e, f, h3.keep hb⟩, ⟨g, k, h4.keep hb⟩, below_trans h5 hb⟩
theorem New4.ld {w W : World} {a b c d : Value} (h : New4 w W a b c d) :
    W.cell? ⟨w.heap.size, 0, none⟩ = some a ∧ W.cell? ⟨w.heap.size, 1, none⟩ = some b ∧ W.cell? ⟨w.heap.size + 1, 0, none⟩ = some c ∧ W.cell? ⟨w.heap.size + 1, 1, none⟩ = some d :=
  ⟨h.1.facts.1, h.1.facts.2.1, h.2.1.facts.1, h.2.1.facts.2.1⟩
/-- The variables of DivFloor: the two numbers, the two results, the quotient. -/
def Dv (w W : World) (a b c d : Value) (g : Nat) (x y : Value) : Prop := New4 w W a b c d ∧ Bx 25 W g x y ∧ w.heap.size + 1 + 1 + 1 < g
section
variable {w W W' : World} {a b c d x y u v : Value} {g : Nat}
theorem Dv.keep (h : Dv w W a b c d g x y) (hb : Below W.heap.size W W') : Dv w W' a b c d g x y := ⟨h.1.keep hb, h.2.1.keep hb, h.2.2⟩
theorem Dv.below (h : Dv w W a b c d g x y) : Below w.heap.size w W := h.1.2.2.2.2
theorem Dv.ld (h : Dv w W a b c d g x y) : W.cell? ⟨w.heap.size, 0, none⟩ = some a ∧ W.cell? ⟨w.heap.size, 1, none⟩ = some b ∧ W.cell? ⟨w.heap.size + 1, 0, none⟩ = some c ∧ W.cell? ⟨w.heap.size + 1, 1, none⟩ = some d ∧ W.cell? ⟨g, 0, none⟩ = some x ∧ W.cell? ⟨g, 1, none⟩ = some y :=
  ⟨h.1.1.facts.1, h.1.1.facts.2.1, h.1.2.1.facts.1, h.1.2.1.facts.2.1, h.2.1.facts.1, h.2.1.facts.2.1⟩
theorem Dv.set2 (h : Dv w W a b c d g x y) (u v : Value) : Dv w ((W.setCell ⟨w.heap.size + 1 + 1, 0, none⟩ u).setCell ⟨w.heap.size + 1 + 1, 1, none⟩ v) a b c d g x y := by
  obtain ⟨⟨h1, h2, ⟨e, f, h3⟩, ⟨k, l, h4⟩, h5⟩, h6, h7⟩ := h
  exact ⟨⟨h1.other2 (by omega) _ _, h2.other2 (by omega) _ _, ⟨_, _, h3.set u v⟩, ⟨_, _, h4.other2 (by omega) _ _⟩, h3.below h5 (by omega) (Nat.le_refl _) _ _⟩, h6.other2 (by omega) _ _, h7⟩
theorem Dv.set3 (h : Dv w W a b c d g x y) (u v : Value) : Dv w ((W.setCell ⟨w.heap.size + 1 + 1 + 1, 0, none⟩ u).setCell ⟨w.heap.size + 1 + 1 + 1, 1, none⟩ v) a b c d g x y := by
  obtain ⟨⟨h1, h2, ⟨e, f, h3⟩, ⟨k, l, h4⟩, h5⟩, h6, h7⟩ := h
  exact ⟨⟨h1.other2 (by omega) _ _, h2.other2 (by omega) _ _, ⟨_, _, h3.other2 (by omega) _ _⟩, ⟨_, _, h4.set u v⟩, h4.below h5 (by omega) (Nat.le_refl _) _ _⟩, h6.other2 (by omega) _ _, h7⟩
theorem Dv.setq (h : Dv w W a b c d g x y) (u v : Value) : Dv w ((W.setCell ⟨g, 0, none⟩ u).setCell ⟨g, 1, none⟩ v) a b c d g u v := by
  obtain ⟨⟨h1, h2, ⟨e, f, h3⟩, ⟨k, l, h4⟩, h5⟩, h6, h7⟩ := h
  exact ⟨⟨h1.other2 (by omega) _ _, h2.other2 (by omega) _ _, ⟨_, _, h3.other2 (by omega) _ _⟩, ⟨_, _, h4.other2 (by omega) _ _⟩, h6.below h5 (by omega) (Nat.le_refl _) _ _⟩, h6.set u v, h7⟩
theorem ret_dv {P : Program} {fn : Func} {R : Ending → World → Prop} {act : Act} {u0 u1 v0 v1 : Value} (D : Dv w W a b c d g x y)
    (hr : ∀ W : World, W.cell? ⟨w.heap.size + 1 + 1, 0, none⟩ = some u0 → W.cell? ⟨w.heap.size + 1 + 1, 1, none⟩ = some u1 → W.cell? ⟨w.heap.size + 1 + 1 + 1, 0, none⟩ = some v0 → W.cell? ⟨w.heap.size + 1 + 1 + 1, 1, none⟩ = some v1 → (results fn act.tmps).run P W = .ok (.tuple #[.agg #[u0, u1], .agg #[v0, v1], .int .i64 0]) W) (hd : act.defers = [])
    (hR : ∀ W', Hid (∀ (z : Value) (k : Int), (Zs w W z k → Zs w W' z k)) → R (.returned (.tuple #[.agg #[u0, u1], .agg #[v0, v1], .int .i64 0])) W') :
    bodyPost P fn R .ret act ((((W.setCell ⟨w.heap.size + 1 + 1, 0, none⟩ u0).setCell ⟨w.heap.size + 1 + 1, 1, none⟩ u1).setCell ⟨w.heap.size + 1 + 1 + 1, 0, none⟩ v0).setCell ⟨w.heap.size + 1 + 1 + 1, 1, none⟩ v1) := by
  obtain ⟨⟨h1, h2, ⟨e, f, h3⟩, ⟨k, l, h4⟩, h5⟩, h6, h7⟩ := D
  have X2 := (h3.set u0 u1).other2 (k := w.heap.size + 1 + 1 + 1) (by omega) v0 v1
  have X3' := h4.other2 (k := w.heap.size + 1 + 1) (by omega) u0 u1
  have X3 := X3'.set v0 v1
  exact bodyPost_ret (hr _ X2.facts.1 X2.facts.2.1 X3.facts.1 X3.facts.2.1) hd (hR _ (fun z k hz => (hz.put int_word h3 (by omega) u0 u1).put int_word X3' (by omega) v0 v1))
theorem Dv.box2 (h : Dv w W a b c d g x y) : ∃ e f, Bx 25 W (w.heap.size + 1 + 1) e f := h.1.2.2.1
theorem Dv.box3 (h : Dv w W a b c d g x y) : ∃ e f, Bx 25 W (w.heap.size + 1 + 1 + 1) e f := h.1.2.2.2.1
end
end Go.Proofs.YtclaiidoomdklaaDoor
