/-
  Fractions: rat, the document's fractions, their texts; ratext's scanner, value, power.
-/
import Derived.Test.YtclaiidoomdklaaDoorY4
import Derived.Test.YtclaiidoomdklaaDoorRg
import Derived.Lib.SmallJoins
import Derived.Shelf.Strings.SlTrimAscii
import Derived.Lib.AppendIntMem
import Derived.Test.YtclaiidoomdklaaDoorZ7
import Derived.Test.YtclaiidoomdklaaDoorZ4
import Derived.Deep.RegionHeld3
namespace Go.Proofs.YtclaiidoomdklaaDoor
section
open Go Go.RowKit Go.Proofs Pl
theorem sign_k {w : World} {L : Nat} {a : Value} {x o : Int} (ho : signZ x = o) (ha : Zn w L a x) (hL : L ≤ 274877906944) :
    Calls Tryd.prog 24 #[a] w fun e w' => e = .returned (.int .i64 o) ∧ Below w.heap.size w w' := by
  subst ho; exact sign_z ha hL
end
section
open Go Go.RowKit Go.Proofs Pl
set_option linter.unusedVariables false

/-- Block g is the variable of a struct of three cells. -/
def B3 (t : TypeId) (w : World) (g : Nat) (a b c : Value) : Prop := w.heap[g]? = some (.cells #[a, b, c] t (0, 0))
section
variable {t t' : TypeId} {w w' : World} {g k : Nat} {a b c x y z u v : Value}
theorem B3.lt (h : B3 t w g a b c) : g < w.heap.size := heap_lt h
theorem B3.facts (h : B3 t w g a b c) : w.cell? ⟨g, 0, none⟩ = some a ∧ w.cell? ⟨g, 1, none⟩ = some b ∧ w.cell? ⟨g, 2, none⟩ = some c ∧ w.frozen? ⟨g, 0, none⟩ = false ∧ w.frozen? ⟨g, 1, none⟩ = false ∧ w.frozen? ⟨g, 2, none⟩ = false := by
  have h' : w.heap[g]? = _ := h
  refine ⟨?_, ?_, ?_, ?_, ?_, ?_⟩ <;> simp [World.cell?, World.frozen?, h']
theorem B3.new (t : TypeId) (w : World) (a b c : Value) : B3 t (w.alloc (.cells #[a, b, c] t)) w.heap.size a b c := World.alloc_heap_new w _
theorem B3.new1 (t : TypeId) (w : World) (o : Obj) (a b c : Value) : B3 t ((w.alloc o).alloc (.cells #[a, b, c] t)) (w.heap.size + 1) a b c := by
  have := B3.new t (w.alloc o) a b c
  rwa [World.size_alloc] at this
theorem B3.new2 (t : TypeId) (w : World) (o o' : Obj) (a b c : Value) : B3 t (((w.alloc o).alloc o').alloc (.cells #[a, b, c] t)) (w.heap.size + 1 + 1) a b c := by
  have := B3.new t ((w.alloc o).alloc o') a b c
  rwa [World.size_alloc, World.size_alloc] at this
theorem B3.keep (h : B3 t w g a b c) (hb : Below w.heap.size w w') : B3 t w' g a b c := (hb.block g h.lt).trans h
theorem B3.alloc (h : B3 t w g a b c) (o : Obj) : B3 t (w.alloc o) g a b c := (Below.heap_alloc w o g h.lt).trans h
theorem B3.other (h : B3 t w g a b c) {p : Addr} (hp : p.block ≠ g) (u : Value) : B3 t (w.setCell p u) g a b c := (Below.heap_setCell w p u g (fun e => hp e.symm)).trans h
theorem B3.other2 (h : B3 t w g a b c) (hp : k ≠ g) (u v : Value) : B3 t ((w.setCell ⟨k, 0, none⟩ u).setCell ⟨k, 1, none⟩ v) g a b c := (h.other hp u).other hp v
theorem B3.other3 (h : B3 t w g a b c) (hp : k ≠ g) (u v x : Value) : B3 t (((w.setCell ⟨k, 0, none⟩ u).setCell ⟨k, 1, none⟩ v).setCell ⟨k, 2, none⟩ x) g a b c := ((h.other hp u).other hp v).other hp x
theorem Bx.other3 (h : Bx t w g a b) (hp : k ≠ g) (u v x : Value) : Bx t (((w.setCell ⟨k, 0, none⟩ u).setCell ⟨k, 1, none⟩ v).setCell ⟨k, 2, none⟩ x) g a b := ((h.other hp u).other hp v).other hp x
theorem B3.set0 (h : B3 t w g a b c) (x : Value) : B3 t (w.setCell ⟨g, 0, none⟩ x) g x b c := by
  obtain ⟨hlt, hk⟩ := Array.getElem?_eq_some_iff.1 h
  show (w.heap.modify g _)[g]? = _
  rw [Array.getElem?_eq_getElem (by rw [Array.size_modify]; exact hlt), Array.getElem_modify_self, hk]
  rfl
theorem B3.set1 (h : B3 t w g a b c) (x : Value) : B3 t (w.setCell ⟨g, 1, none⟩ x) g a x c := by
  obtain ⟨hlt, hk⟩ := Array.getElem?_eq_some_iff.1 h
  show (w.heap.modify g _)[g]? = _
  rw [Array.getElem?_eq_getElem (by rw [Array.size_modify]; exact hlt), Array.getElem_modify_self, hk]
  rfl
theorem B3.set2 (h : B3 t w g a b c) (x : Value) : B3 t (w.setCell ⟨g, 2, none⟩ x) g a b x := by
  obtain ⟨hlt, hk⟩ := Array.getElem?_eq_some_iff.1 h
  show (w.heap.modify g _)[g]? = _
  rw [Array.getElem?_eq_getElem (by rw [Array.size_modify]; exact hlt), Array.getElem_modify_self, hk]
  rfl
theorem B3.set (h : B3 t w g a b c) (x y z : Value) : B3 t (((w.setCell ⟨g, 0, none⟩ x).setCell ⟨g, 1, none⟩ y).setCell ⟨g, 2, none⟩ z) g x y z := ((h.set0 x).set1 y).set2 z
theorem B3.keepT (h : B3 t w g a b c) {e : TypeId} (hne : t ≠ e) (x y z : Value) : KeepT e w (((w.setCell ⟨g, 0, none⟩ x).setCell ⟨g, 1, none⟩ y).setCell ⟨g, 2, none⟩ z) :=
  ((KeepT.setCell h hne rfl x).trans (KeepT.setCell (h.set0 x) hne rfl y)).trans (KeepT.setCell ((h.set0 x).set1 y) hne rfl z)
theorem B3.below (h : B3 t w' g a b c) {B : Nat} (hb : Below B w w') (hg : B ≤ g) (x y z : Value) : Below B w (((w'.setCell ⟨g, 0, none⟩ x).setCell ⟨g, 1, none⟩ y).setCell ⟨g, 2, none⟩ z) :=
  ((hb.setCell hg x).setCell hg y).setCell hg z
theorem ret_b3 {P : Program} {fn : Func} {R : Ending → World → Prop} {act : Act} {V : Value} (X : B3 t w g a b c)
    (hr : ∀ W : World, W.cell? ⟨g, 0, none⟩ = some x → W.cell? ⟨g, 1, none⟩ = some y → W.cell? ⟨g, 2, none⟩ = some z → (results fn act.tmps).run P W = .ok V W) (hd : act.defers = [])
    (hR : R (.returned V) (((w.setCell ⟨g, 0, none⟩ x).setCell ⟨g, 1, none⟩ y).setCell ⟨g, 2, none⟩ z)) : bodyPost P fn R .ret act (((w.setCell ⟨g, 0, none⟩ x).setCell ⟨g, 1, none⟩ y).setCell ⟨g, 2, none⟩ z) :=
  bodyPost_ret (hr _ (X.set x y z).facts.1 (X.set x y z).facts.2.1 (X.set x y z).facts.2.2.1) hd hR
end
section
variable {t : TypeId} {w : World} {g : Nat} {p0 : Bool} {A0 A1 : Option Addr} {l0 c0 l1 c1 : Nat}
theorem B3.int_cell (X : B3 t w g (.bool p0) (.slice A0 l0 c0) (.slice A1 l1 c1)) {b o : Nat} {k : IntKind} {n : Int} (h : w.cell? ⟨b, o, none⟩ = some (.int k n)) (x y z : Value) :
    (((w.setCell ⟨g, 0, none⟩ x).setCell ⟨g, 1, none⟩ y).setCell ⟨g, 2, none⟩ z).cell? ⟨b, o, none⟩ = some (.int k n) := by
  have hne : b ≠ g := by
    rintro rfl
    have X' : w.heap[b]? = _ := X
    match o, h with
    | 0, h => simp [World.cell?, X'] at h
    | 1, h => simp [World.cell?, X'] at h
    | 2, h => simp [World.cell?, X'] at h
    | o + 3, h => simp [World.cell?, X'] at h
  have e : (((w.setCell ⟨g, 0, none⟩ x).setCell ⟨g, 1, none⟩ y).setCell ⟨g, 2, none⟩ z).heap[b]? = w.heap[b]? :=
    ((Below.heap_setCell _ _ _ _ (by exact hne)).trans (Below.heap_setCell _ _ _ _ (by exact hne))).trans (Below.heap_setCell _ _ _ _ (by exact hne))
  exact (World.cell?_of_block (w := w) (a := ⟨b, o, none⟩) e).trans h
variable {xs : List Nat} {A : Option Addr} {s v : Value} {L n : Nat} {q : Int}
theorem Rd.put3 (h : Rd w A xs) (X : B3 t w g (.bool p0) (.slice A0 l0 c0) (.slice A1 l1 c1)) (x y z : Value) : Rd (((w.setCell ⟨g, 0, none⟩ x).setCell ⟨g, 1, none⟩ y).setCell ⟨g, 2, none⟩ z) A xs := by
  rcases h with ⟨h1, h2⟩
  refine ⟨h1, ?_⟩
  rcases h2 with h2 | ⟨b, o, h3, h4⟩
  · exact .inl h2
  · exact .inr ⟨b, o, h3, fun j k hj => X.int_cell (h4 j k hj) x y z⟩
theorem Nl.put3 (h : Nl w s xs) (X : B3 t w g (.bool p0) (.slice A0 l0 c0) (.slice A1 l1 c1)) (x y z : Value) : Nl (((w.setCell ⟨g, 0, none⟩ x).setCell ⟨g, 1, none⟩ y).setCell ⟨g, 2, none⟩ z) s xs := by
  obtain ⟨A, c, h1, h2, h3⟩ := h
  exact ⟨A, c, h1, h2.put3 X x y z, h3⟩
namespace I
theorem Rd.put3 (h : Rd w A xs) (X : B3 t w g (.bool p0) (.slice A0 l0 c0) (.slice A1 l1 c1)) (x y z : Value) : Rd (((w.setCell ⟨g, 0, none⟩ x).setCell ⟨g, 1, none⟩ y).setCell ⟨g, 2, none⟩ z) A xs := by
  rcases h with ⟨h1, h2⟩
  refine ⟨h1, ?_⟩
  rcases h2 with h2 | ⟨b, o, h3, h4⟩
  · exact .inl h2
  · exact .inr ⟨b, o, h3, fun j k hj => X.int_cell (h4 j k hj) x y z⟩
theorem Nl.put3 (h : Nl w s xs) (X : B3 t w g (.bool p0) (.slice A0 l0 c0) (.slice A1 l1 c1)) (x y z : Value) : Nl (((w.setCell ⟨g, 0, none⟩ x).setCell ⟨g, 1, none⟩ y).setCell ⟨g, 2, none⟩ z) s xs := by
  obtain ⟨A, c, h1, h2, h3⟩ := h
  exact ⟨A, c, h1, h2.put3 X x y z, h3⟩
theorem Dn.put3 (h : Dn w L s n) (X : B3 t w g (.bool p0) (.slice A0 l0 c0) (.slice A1 l1 c1)) (x y z : Value) : Dn (((w.setCell ⟨g, 0, none⟩ x).setCell ⟨g, 1, none⟩ y).setCell ⟨g, 2, none⟩ z) L s n := ⟨h.1.put3 X x y z, h.2⟩
end I
end
/-- Numerator and denominator in the lowest terms. -/
def qn (z : Int) (n : Nat) : Int := sg (decide (z < 0)) (z.natAbs / Nat.gcd z.natAbs n)
def qd (z : Int) (n : Nat) : Nat := n / Nat.gcd z.natAbs n
theorem qn_sg (b : Bool) (m n : Nat) : sg b (m / Nat.gcd m n) = qn (sg b m) n := by
  unfold qn
  rw [sg_abs, sg_neg]
  cases b
  · rfl
  · by_cases h : m = 0
    · subst h; simp [sg]
    · simp [h]
theorem qn_abs (z : Int) (n : Nat) : (qn z n).natAbs = z.natAbs / Nat.gcd z.natAbs n := sg_abs _ _
theorem qd_pos {z : Int} {n : Nat} (h : n ≠ 0) : qd z n ≠ 0 := by
  have h1 : Nat.gcd z.natAbs n ∣ n := Nat.gcd_dvd_right _ _
  have h2 : 0 < Nat.gcd z.natAbs n := Nat.gcd_pos_of_pos_right _ (Nat.pos_of_ne_zero h)
  have h3 := Nat.div_pos (Nat.le_of_dvd (Nat.pos_of_ne_zero h) h1) h2
  unfold qd; omega
/-- v reads the fraction z / n in its one form. -/
def Qo (w : World) (v : Value) (z : Int) (n : Nat) : Prop := ∃ s d, v = .agg #[.bool (decide (z < 0)), s, d] ∧ Nl w s (dg WB z.natAbs) ∧ Nl w d (dg WB n)
/-- v is z / n in its one form, made since w. -/
def Qs (w w' : World) (v : Value) (z : Int) (n : Nat) : Prop := ∃ s d, v = .agg #[.bool (decide (z < 0)), s, d] ∧ Rs w w' s z.natAbs ∧ Rs w w' d n
/-- v has the sign b, the words xs above and ds below, in whatever form. -/
def Ql (w : World) (v : Value) (b : Bool) (xs ds : List Nat) : Prop := ∃ s d, v = .agg #[.bool b, s, d] ∧ Nl w s xs ∧ Nl w d ds
section
variable {w w' : World} {v : Value} {z : Int} {n : Nat} {b : Bool} {xs ds : List Nat}
theorem Qo.keep (h : Qo w v z n) (hb : Below w.heap.size w w') : Qo w' v z n := by
  obtain ⟨s, d, h1, h2, h3⟩ := h
  exact ⟨s, d, h1, h2.keep hb, h3.keep hb⟩
theorem Ql.keep (h : Ql w v b xs ds) (hb : Below w.heap.size w w') : Ql w' v b xs ds := by
  obtain ⟨s, d, h1, h2, h3⟩ := h
  exact ⟨s, d, h1, h2.keep hb, h3.keep hb⟩
theorem Qs.qo (h : Qs w w' v z n) : Qo w' v z n := by
  obtain ⟨s, d, h1, h2, h3⟩ := h
  exact ⟨s, d, h1, h2.nl, h3.nl⟩
theorem Qo.ql (h : Qo w v z n) : Ql w v (decide (z < 0)) (dg WB z.natAbs) (dg WB n) := h
theorem Qs.below (h : Qs w w' v z n) : Below w.heap.size w w' := by
  obtain ⟨s, d, h1, h2, h3⟩ := h
  exact h2.2
theorem Qs.from (h : Qs w' w v z n) {w0 : World} (hb : Below w0.heap.size w0 w') : Qs w0 w v z n := by
  obtain ⟨s, d, h1, h2, h3⟩ := h
  exact ⟨s, d, h1, h2.out hb, h3.out hb⟩
theorem Ql.parts (h : Ql w v b xs ds) : ∃ A n c A2 n2 c2, v = .agg #[.bool b, .slice A n c, .slice A2 n2 c2] ∧ n = xs.length ∧ n2 = ds.length ∧ Hid (Ql w (.agg #[.bool b, .slice A n c, .slice A2 n2 c2]) b xs ds) := by
  have h' := h
  obtain ⟨s, d, rfl, h2, h3⟩ := h
  obtain ⟨A, c, rfl, -⟩ := h2
  obtain ⟨A2, c2, rfl, -⟩ := h3
  exact ⟨A, _, c, A2, _, c2, rfl, rfl, rfl, h'⟩
theorem Qo.parts (h : Qo w v z n) : ∃ p A l c A2 l2 c2, v = .agg #[.bool p, .slice A l c, .slice A2 l2 c2] := by
  obtain ⟨s, d, rfl, ⟨A, c, rfl, -⟩, ⟨A2, c2, rfl, -⟩⟩ := h
  exact ⟨_, A, _, c, A2, _, c2, rfl⟩
end
theorem Rs.put3 {t : TypeId} {w w1 : World} {g n : Nat} {a b c s : Value} (ht : t ≠ 42) (X : B3 t w1 g a b c) (hg : w.heap.size ≤ g) (h : Rs w w1 s n) (x y z : Value) :
    Rs w (((w1.setCell ⟨g, 0, none⟩ x).setCell ⟨g, 1, none⟩ y).setCell ⟨g, 2, none⟩ z) s n :=
  ⟨⟨h.1.1, own_keepT h.1.2 (X.keepT ht x y z)⟩, X.below h.2 hg x y z⟩
theorem Qs.put3 {t : TypeId} {w w1 : World} {g n : Nat} {a b c v : Value} {q : Int} (ht : t ≠ 42) (X : B3 t w1 g a b c) (hg : w.heap.size ≤ g) (h : Qs w w1 v q n) (x y z : Value) :
    Qs w (((w1.setCell ⟨g, 0, none⟩ x).setCell ⟨g, 1, none⟩ y).setCell ⟨g, 2, none⟩ z) v q n := by
  obtain ⟨s, d, h1, h2, h3⟩ := h
  exact ⟨s, d, h1, h2.put3 ht X hg x y z, h3.put3 ht X hg x y z⟩
theorem cell_st3 {W : World} {b o : Nat} {v x y z : Value} (g : Nat) (h : W.cell? ⟨b, o, none⟩ = some v) (hne : b ≠ g) : (((W.setCell ⟨g, 0, none⟩ x).setCell ⟨g, 1, none⟩ y).setCell ⟨g, 2, none⟩ z).cell? ⟨b, o, none⟩ = some v := by
  have e : (((W.setCell ⟨g, 0, none⟩ x).setCell ⟨g, 1, none⟩ y).setCell ⟨g, 2, none⟩ z).heap[b]? = W.heap[b]? :=
    ((Below.heap_setCell _ _ _ _ (by exact hne)).trans (Below.heap_setCell _ _ _ _ (by exact hne))).trans (Below.heap_setCell _ _ _ _ (by exact hne))
  exact (World.cell?_of_block (w := W) (a := ⟨b, o, none⟩) e).trans h
theorem Rs.keep {w w1 w2 : World} {s : Value} {n : Nat} (h : Rs w w1 s n) (hb : Below w1.heap.size w1 w2) : Rs w w2 s n := ⟨h.1.keep hb, below_trans h.2 hb⟩
theorem Zs.keep {w w1 w2 : World} {v : Value} {z : Int} (h : Zs w w1 v z) (hb : Below w1.heap.size w1 w2) : Zs w w2 v z := h.then hb
theorem Qs.keep {w w1 w2 : World} {v : Value} {z : Int} {n : Nat} (h : Qs w w1 v z n) (hb : Below w1.heap.size w1 w2) : Qs w w2 v z n := by
  obtain ⟨s, d, h1, h2, h3⟩ := h
  exact ⟨s, d, h1, h2.keep hb, h3.keep hb⟩
theorem Zs.q {w W : World} {p : Bool} {s d : Value} {z : Int} {n : Nat} (h : Zs w W (.agg #[.bool p, s]) z) (hd : Rs w W d n) : Qs w W (.agg #[.bool p, s, d]) z n := by
  obtain ⟨s', e, h⟩ := h
  injection e with e; injection e with e
  simp only [List.cons.injEq, Value.bool.injEq] at e
  exact ⟨s', d, by rw [e.1, e.2.1], h, hd⟩
theorem Rs.form {w W : World} {v : Value} {n : Nat} (h : Rs w W v n) : ∃ A l c, v = .slice A l c := by
  obtain ⟨A, c, rfl, -, -⟩ := h.1.slice
  exact ⟨A, _, c, rfl⟩
theorem rat_word : (27 : TypeId) ≠ 42 := by decide
end

section
open Go Go.RowKit Go.Proofs Pl
set_option linter.unusedVariables false

set_option maxRecDepth 100000 in
theorem one_q (w : World) : Calls Tryd.prog 74 #[] w fun e w' => ∃ v, e = .returned v ∧ Nm w' 1 v 1 ∧ Below w.heap.size w w' := by
  go_enter Tryd.func74, Tryd.ntmps74
  go_wp2_with fail
  go_ret
  exact ⟨_, rfl, ⟨[1], nl_one w 1 (by rw [WB_eq]; decide), by simp, by simp [val]⟩, below_al w _⟩
set_option maxRecDepth 100000 in
set_option maxHeartbeats 2000000 in
theorem lowest_q {w : World} {L1 L2 : Nat} {a d : Value} {z : Int} {n : Nat} (ha : Zn w L1 a z) (hd : Nm w L2 d n) (h0 : n ≠ 0) (h1 : L1 ≤ 137438953472) (h2 : L2 ≤ 137438953472) :
    Calls Tryd.prog 25 #[a, d] w fun e w' => ∃ v, e = .returned v ∧ Qs w w' v (qn z n) (qd z n) := by
  obtain ⟨b, s, m, rfl, hs, rfl⟩ := ha
  have e1 := qn_sg b m n
  have e2 : qd (sg b m) n = n / Nat.gcd m n := by unfold qd; rw [sg_abs]
  rw [← e1, e2]
  have hg : Nat.gcd m n ≠ 0 := by have := Nat.gcd_pos_of_pos_right m (Nat.pos_of_ne_zero h0); omega
  obtain ⟨k, hk⟩ : ∃ k, k = Nat.gcd m n := ⟨_, rfl⟩
  have hkn : k < WB ^ L2 := by rw [hk]; exact Nat.lt_of_le_of_lt (Nat.gcd_le_right m (Nat.pos_of_ne_zero h0)) hd.lt
  rw [← hk] at hg ⊢
  have HB := Lib.hid (And.intro hkn (And.intro hg (And.intro (Nat.lt_of_le_of_lt (Nat.div_le_self m k) hs.lt) (And.intro h1 (And.intro h2 hk)))))
  have S0 := Lib.hid (And.intro (hs) (And.intro (hd) (Below.refl w.heap.size w)))
  clear hs hd e1 e2 hg hkn h0 h1 h2 hk
  go_enter Tryd.func25, Tryd.ntmps25
  go_upto_region 1 with (fail)
  have hb := below_trans (below_al w (.cells #[.bool b, s] 25)) (below_al _ (.cells #[.bool false, (.slice none 0 0), (.slice none 0 0)] 27))
  have hX := (Bx.new 25 w (.bool b) s).alloc (.cells #[.bool false, (.slice none 0 0), (.slice none 0 0)] 27)
  have hR := B3.new1 27 w (.cells #[.bool b, s] 25) (.bool false) (.slice none 0 0) (.slice none 0 0)
  have S1 := Lib.hid (And.intro (S0.out.1.keep (hb)) (And.intro (S0.out.2.1.keep (hb)) (And.intro (hX) (And.intro (hR) (below_trans (S0.out.2.2) (hb))))))
  clear hb hX hR S0
  generalize (w.alloc _).alloc _ = W0 at S1 ⊢
  obtain ⟨xa, xb, -, -⟩ := S1.out.2.2.1.facts
  go_wp2_with fail
  refine (gcd_nm S1.out.1 S1.out.2.1 (by have := HB.out; omega) (by have := HB.out; omega)).mono ?_; rintro e w2 ⟨vg, rfl, h⟩
  rw [← HB.out.2.2.2.2.2] at h
  have S2 := Lib.hid (And.intro (S1.out.1.keep (h.2)) (And.intro (S1.out.2.1.keep (h.2)) (And.intro (S1.out.2.2.1.keep (h.2)) (And.intro (S1.out.2.2.2.1.keep (h.2)) (And.intro (h.nm HB.out.1) (below_trans (S1.out.2.2.2.2) (h.2)))))))
  clear h xa xb S1
  obtain ⟨xa, xb, -, -⟩ := S2.out.2.2.1.facts
  go_wp2_with fail
  refine (divMod_nm S2.out.1 S2.out.2.2.2.2.1 (by have := HB.out; omega) HB.out.2.1).mono ?_; rintro e w3 ⟨v1, v2, rfl, h, hh⟩
  have S3 := Lib.hid (And.intro (S2.out.1.keep (h.2)) (And.intro (S2.out.2.1.keep (h.2)) (And.intro (S2.out.2.2.1.keep (h.2)) (And.intro (S2.out.2.2.2.1.keep (h.2)) (And.intro (S2.out.2.2.2.2.1.keep (h.2)) (And.intro (h.nm HB.out.2.2.1) (below_trans (S2.out.2.2.2.2.2) (h.2))))))))
  clear h hh xa xb S2
  go_wp2_with fail
  refine (divMod_nm S3.out.2.1 S3.out.2.2.2.2.1 (by have := HB.out; omega) HB.out.2.1).mono ?_; rintro e w4 ⟨v3, v4, rfl, h, hh⟩
  obtain ⟨Ad, ld, cd, rfl⟩ := h.form
  have S4 := Lib.hid (And.intro (S3.out.1.keep (h.2)) (And.intro (S3.out.2.1.keep (h.2)) (And.intro (S3.out.2.2.1.keep (h.2)) (And.intro (S3.out.2.2.2.1.keep (h.2)) (And.intro (S3.out.2.2.2.2.1.keep (h.2)) (And.intro (S3.out.2.2.2.2.2.1.keep (h.2)) (And.intro (h.out S3.out.2.2.2.2.2.2) (below_trans (S3.out.2.2.2.2.2.2) (h.2)))))))))
  clear h hh  S3
  obtain ⟨xa, xb, -, -⟩ := S4.out.2.2.1.facts
  go_wp2_with fail
  refine (make_z b S4.out.2.2.2.2.2.1 (by have := HB.out; omega)).mono ?_; rintro e w5 ⟨v5, rfl, h⟩
  obtain ⟨pz, Az, lz, cz, rfl, -⟩ := h.parts
  have S5 := Lib.hid (And.intro (S4.out.1.keep (h.below)) (And.intro (S4.out.2.1.keep (h.below)) (And.intro (S4.out.2.2.1.keep (h.below)) (And.intro (S4.out.2.2.2.1.keep (h.below)) (And.intro (S4.out.2.2.2.2.1.keep (h.below)) (And.intro (S4.out.2.2.2.2.2.1.keep (h.below)) (And.intro (S4.out.2.2.2.2.2.2.1.keep (h.below)) (And.intro (h.from S4.out.2.2.2.2.2.2.2) (below_trans (S4.out.2.2.2.2.2.2.2) (h.below))))))))))
  clear h xa xb S4
  obtain ⟨f0, f1, f2, f3, f4, f5⟩ := S5.out.2.2.2.1.facts
  go_wp2_with fail
  refine ret_b3 S5.out.2.2.2.1 (fun W d0 d1 d2 => by simp [results, Tryd.results25, go_sem, d0, d1, d2]; try rfl) rfl ?_
  exact ⟨_, rfl, (S5.out.2.2.2.2.2.2.2.1.q S5.out.2.2.2.2.2.2.1).put3 rat_word S5.out.2.2.2.1 (by omega) _ _ _⟩
set_option maxRecDepth 100000 in
set_option maxHeartbeats 2000000 in
theorem under_zero {w : World} {L : Nat} {b : Bool} {s d : Value} {n : Nat} (hd : Nm w L d n) (hL : L ≤ 137438953472) (h0 : n = 0) :
    Calls Tryd.prog 52 #[.agg #[.bool b, s, d]] w fun e w' => ∃ v, e = .returned v ∧ Nm w' 1 v 1 ∧ Below w.heap.size w w' := by
  have HL := Lib.hid hL
  have e0 : nb n = 0 := nb_eq_zero.2 h0
  have S0 := Lib.hid (And.intro (hd) (Below.refl w.heap.size w))
  have HE := Lib.hid e0
  clear hd hL h0 e0
  go_enter Tryd.func52, Tryd.ntmps52
  go_upto_region 1 with (fail)
  have hX := B3.new 27 w (.bool b) s d
  have S1 := Lib.hid (And.intro (S0.out.1.keep ((below_al w (.cells #[.bool b, s, d] 27)))) (And.intro (hX) (below_trans (S0.out.2) ((below_al w (.cells #[.bool b, s, d] 27))))))
  clear hX S0
  generalize w.alloc _ = W0 at S1 ⊢
  obtain ⟨xa, xb, xc, -, -, -⟩ := S1.out.2.1.facts
  go_wp2_with fail
  refine (bits_nm S1.out.1 (by have := HL.out; omega)).mono ?_; rintro e w2 ⟨rfl, hb⟩
  rw [HE.out]
  have S2 := Lib.hid (And.intro (S1.out.1.keep (hb)) (And.intro (S1.out.2.1.keep (hb)) (below_trans (S1.out.2.2) (hb))))
  clear hb xa xb xc S1
  go_wp2_with fail
  refine (one_q _).mono ?_; rintro e w3 ⟨v, rfl, h, hb⟩
  have S3 := Lib.hid (And.intro (S2.out.1.keep (hb)) (And.intro (S2.out.2.1.keep (hb)) (And.intro (h) (below_trans (S2.out.2.2) (hb)))))
  clear h hb  S2
  go_wp2_with fail
  go_ret
  exact ⟨_, rfl, S3.out.2.2.1, S3.out.2.2.2⟩
set_option maxRecDepth 100000 in
set_option maxHeartbeats 2000000 in
theorem under_some {w : World} {L : Nat} {b : Bool} {s d : Value} {n : Nat} (hd : Nm w L d n) (hL : L ≤ 137438953472) (h0 : n ≠ 0) :
    Calls Tryd.prog 52 #[.agg #[.bool b, s, d]] w fun e w' => ∃ v, e = .returned v ∧ Nm w' L v n ∧ Below w.heap.size w w' := by
  have HL := Lib.hid hL
  obtain ⟨k, hk⟩ : ∃ k, k = nb n := ⟨_, rfl⟩
  have hkn : k ≠ 0 := by rw [hk]; exact fun h => h0 (nb_eq_zero.1 h)
  have hk0 : ((k : Int) == 0) = false := beq_eq_false_iff_ne.2 (by omega)
  clear hkn
  have S0 := Lib.hid (And.intro (hd) (Below.refl w.heap.size w))
  have HE := Lib.hid hk
  clear hd hL h0 hk
  go_enter Tryd.func52, Tryd.ntmps52
  go_upto_region 1 with (fail)
  have hX := B3.new 27 w (.bool b) s d
  have S1 := Lib.hid (And.intro (S0.out.1.keep ((below_al w (.cells #[.bool b, s, d] 27)))) (And.intro (hX) (below_trans (S0.out.2) ((below_al w (.cells #[.bool b, s, d] 27))))))
  clear hX S0
  generalize w.alloc _ = W0 at S1 ⊢
  obtain ⟨xa, xb, xc, -, -, -⟩ := S1.out.2.1.facts
  go_wp2_with fail
  refine (bits_nm S1.out.1 (by have := HL.out; omega)).mono ?_; rintro e w2 ⟨rfl, hb⟩
  rw [← HE.out]
  have S2 := Lib.hid (And.intro (S1.out.1.keep (hb)) (And.intro (S1.out.2.1.keep (hb)) (below_trans (S1.out.2.2) (hb))))
  clear hb xa xb xc S1
  obtain ⟨xa, xb, xc, -, -, -⟩ := S2.out.2.1.facts
  go_wp2_with fail
  go_ret
  exact ⟨_, rfl, S2.out.1, S2.out.2.2⟩
/-- The denominator as it is read. -/
def den (n : Nat) : Nat := if n = 0 then 1 else n
theorem den_ne (n : Nat) : den n ≠ 0 := by unfold den; split <;> omega
theorem den_lt {n L : Nat} (h : n < WB ^ L) (hL : 0 < L) : den n < WB ^ L := by
  unfold den; split
  · exact Nat.one_lt_pow (by omega) WB_one
  · exact h
theorem Nm.mono' {w : World} {L L' n : Nat} {v : Value} (h : Nm w L v n) (hL : L ≤ L') : Nm w L' v n := h.mono hL
theorem under_q {w : World} {L : Nat} {b : Bool} {s d : Value} {n : Nat} (hd : Nm w L d n) (h1 : 0 < L) (hL : L ≤ 137438953472) :
    Calls Tryd.prog 52 #[.agg #[.bool b, s, d]] w fun e w' => ∃ v, e = .returned v ∧ Nm w' L v (den n) ∧ Below w.heap.size w w' := by
  unfold den
  by_cases h0 : n = 0
  · rw [if_pos h0]
    refine (under_zero hd hL h0).mono ?_
    rintro e w' ⟨v, he, h, hb⟩
    exact ⟨v, he, h.mono' (by omega), hb⟩
  · rw [if_neg h0]
    exact under_some hd hL h0
set_option maxRecDepth 100000 in
set_option maxHeartbeats 2000000 in
theorem form_q {w : World} {L : Nat} {a : Value} {b : Bool} {xs ds : List Nat} (ha : Ql w a b xs ds) (hx : xs.length ≤ L) (hd : ds.length ≤ L) (h1 : 0 < L) (hL : L ≤ 137438953472) :
    Calls Tryd.prog 32 #[a] w fun e w' => ∃ v, e = .returned v ∧ Qs w w' v (qn (sg b (val WB xs)) (den (val WB ds))) (qd (sg b (val WB xs)) (den (val WB ds))) := by
  obtain ⟨s, d, rfl, hs, hdn⟩ := ha
  have hz : Zn w L (.agg #[.bool b, s]) (sg b (val WB xs)) := ⟨b, s, _, rfl, ⟨xs, hs, hx, rfl⟩, rfl⟩
  have hn : Nm w L d (val WB ds) := ⟨ds, hdn, hd, rfl⟩
  obtain ⟨z, ez⟩ : ∃ z, z = sg b (val WB xs) := ⟨_, rfl⟩
  obtain ⟨n, en⟩ : ∃ n, n = val WB ds := ⟨_, rfl⟩
  rw [← ez] at hz ⊢
  rw [← en] at hn ⊢
  have HL := Lib.hid (And.intro h1 hL)
  have S0 := Lib.hid (And.intro (hz) (And.intro (hn) (Below.refl w.heap.size w)))
  clear hz hn hs hdn hx hd h1 hL ez en
  go_enter Tryd.func32, Tryd.ntmps32
  go_upto_region 1 with (fail)
  have hb := below_trans (below_al w (.cells #[.bool b, s, d] 27)) (below_al _ (.cells #[.bool false, .slice none 0 0, .slice none 0 0] 27))
  have hX := (B3.new 27 w (.bool b) (s) (d)).alloc (.cells #[.bool false, .slice none 0 0, .slice none 0 0] 27)
  have hR := B3.new1 27 w (.cells #[.bool b, s, d] 27) (.bool false) (.slice none 0 0) (.slice none 0 0)
  have S1 := Lib.hid (And.intro (S0.out.1.keep (hb)) (And.intro (S0.out.2.1.keep (hb)) (And.intro (hX) (And.intro (hR) (below_trans (S0.out.2.2) (hb))))))
  clear hb hX hR S0
  generalize (w.alloc _).alloc _ = W0 at S1 ⊢
  go_upto_region 1 with (fail)
  have S2 := Lib.hid (And.intro (S1.out.1.keep (below_dr _ 1)) (And.intro (S1.out.2.1.keep (below_dr _ 1)) (And.intro (S1.out.2.2.1.keep (below_dr _ 1)) (And.intro (S1.out.2.2.2.1.keep (below_dr _ 1)) (below_trans (S1.out.2.2.2.2) (below_dr _ 1))))))
  refine wp_region_held_drew (S := fun W => W.cell? ⟨w.heap.size, 0, none⟩ = some (.bool b) ∧ W.cell? ⟨w.heap.size, 1, none⟩ = some s ∧ W.cell? ⟨w.heap.size, 2, none⟩ = some d) (by kernel_rfl) ⟨S2.out.2.2.1.facts.1, S2.out.2.2.1.facts.2.1, S2.out.2.2.1.facts.2.2.1⟩ (fun hHeld => ?_)
  refine rgTake 0 hHeld ?_; try simp only [Act.put, List.setIfInBounds_toArray, List.set_cons_zero, List.set_cons_succ]
  refine rgTake 1 hHeld ?_; try simp only [Act.put, List.setIfInBounds_toArray, List.set_cons_zero, List.set_cons_succ]
  refine rgTake 2 hHeld ?_; try simp only [Act.put, List.setIfInBounds_toArray, List.set_cons_zero, List.set_cons_succ]
  refine rgReady [3] (rgOne (fun K hK => ?_) rgNil)
  go_simp
  go_at_call 52; refine (under_q S2.out.2.1 HL.out.1 (by have := HL.out; omega)).mono ?_; rintro e w3 ⟨v, rfl, h, hb⟩
  have S3 := Lib.hid (And.intro (S2.out.1.keep (hb)) (And.intro (S2.out.2.1.keep (hb)) (And.intro (S2.out.2.2.1.keep (hb)) (And.intro (S2.out.2.2.2.1.keep (hb)) (And.intro (h) (below_trans (S2.out.2.2.2.2) (hb)))))))
  clear h hb hHeld
  go_wp2_with fail
  refine hK.out _ _ ⟨S3.out.2.2.1.facts.1, S3.out.2.2.1.facts.2.1, S3.out.2.2.1.facts.2.2.1⟩ (fun hHeld => ?_); clear hK K; try simp only [Act.put, List.setIfInBounds_toArray, List.set_cons_zero, List.set_cons_succ]
  refine rgReady [4] (rgOne (fun K hK => ?_) rgNil)
  go_simp
  go_at_call 25; refine (lowest_q S3.out.1 S3.out.2.2.2.2.1 (den_ne n) (by have := HL.out; omega) (by have := HL.out; omega)).mono ?_; rintro e w4 ⟨v, rfl, h⟩
  obtain ⟨pq, Aq, lq, cq, Ae, le, ce, rfl⟩ := h.qo.parts
  have S4 := Lib.hid (And.intro (S3.out.1.keep (h.below)) (And.intro (S3.out.2.1.keep (h.below)) (And.intro (S3.out.2.2.1.keep (h.below)) (And.intro (S3.out.2.2.2.1.keep (h.below)) (And.intro (S3.out.2.2.2.2.1.keep (h.below)) (And.intro (h.from S3.out.2.2.2.2.2) (below_trans (S3.out.2.2.2.2.2) (h.below))))))))
  clear h hHeld
  go_wp2_with fail
  refine hK.out _ _ ⟨S4.out.2.2.1.facts.1, S4.out.2.2.1.facts.2.1, S4.out.2.2.1.facts.2.2.1⟩ (fun hHeld => ?_); clear hK K; try simp only [Act.put, List.setIfInBounds_toArray, List.set_cons_zero, List.set_cons_succ]
  obtain ⟨f0, f1, f2, f3, f4, f5⟩ := S4.out.2.2.2.1.facts
  refine rgReady [5] (rgOne (fun K hK => ?_) rgNil)
  go_simp; clear f0 f1 f2 f3 f4 f5
  refine hK.out _ _ ⟨cell_st3 _ S4.out.2.2.1.facts.1 (by omega), cell_st3 _ S4.out.2.2.1.facts.2.1 (by omega), cell_st3 _ S4.out.2.2.1.facts.2.2.1 (by omega)⟩ (fun hHeld => ?_); clear hK K; try simp only [Act.put, List.setIfInBounds_toArray, List.set_cons_zero, List.set_cons_succ]
  refine wpAnyH_done (by kernel_rfl) ?_ _
  clear hHeld
  go_wp2_with fail
  refine ret_b3 S4.out.2.2.2.1 (fun W d0 d1 d2 => by simp [results, Tryd.results32, go_sem, d0, d1, d2]; try rfl) rfl ?_
  exact ⟨_, rfl, S4.out.2.2.2.2.2.1.put3 rat_word S4.out.2.2.2.1 (by omega) _ _ _⟩
end

section
open Go Go.RowKit Go.Proofs Pl
set_option linter.unusedVariables false
theorem Ql.put3 {t : TypeId} {w : World} {g : Nat} {v : Value} {b p0 : Bool} {A0 A1 : Option Addr} {l0 c0 l1 c1 : Nat} {xs ds : List Nat} (h : Ql w v b xs ds) (X : B3 t w g (.bool p0) (.slice A0 l0 c0) (.slice A1 l1 c1)) (x y z : Value) :
    Ql (((w.setCell ⟨g, 0, none⟩ x).setCell ⟨g, 1, none⟩ y).setCell ⟨g, 2, none⟩ z) v b xs ds := by
  obtain ⟨s, d, h1, h2, h3⟩ := h
  exact ⟨s, d, h1, h2.put3 X x y z, h3.put3 X x y z⟩
set_option maxRecDepth 100000 in
set_option maxHeartbeats 2000000 in
theorem same_q {w : World} {a c : Value} {b : Bool} {xs ds : List Nat} (ha : Ql w a b xs ds) (hc : Ql w c b xs ds) :
    Calls Tryd.prog 6 #[a, c] w fun e w' => e = .returned (.bool true) ∧ Below w.heap.size w w' := by
  obtain ⟨s, d, rfl, hs, hd⟩ := ha
  obtain ⟨t, u, rfl, ht, hu⟩ := hc
  have S0 := Lib.hid (And.intro ((show Zl w (.agg #[.bool b, s]) b xs from ⟨s, rfl, hs⟩)) (And.intro ((show Zl w (.agg #[.bool b, t]) b xs from ⟨t, rfl, ht⟩)) (And.intro (hd) (And.intro (hu) (Below.refl w.heap.size w)))))
  clear hs hd ht hu
  go_enter Tryd.func6, Tryd.ntmps6
  go_upto_region 1 with (fail)
  have hb := below_trans (below_al w (.cells #[.bool b, s, d] 27)) (below_al _ (.cells #[.bool b, t, u] 27))
  have hX0 := (B3.new 27 w  (.bool b) (s) (d)).alloc (.cells #[.bool b, t, u] 27)
  have hX1 := B3.new1 27 w (.cells #[.bool b, s, d] 27) (.bool b) (t) (u)
  have S1 := Lib.hid (And.intro (S0.out.1.keep (hb)) (And.intro (S0.out.2.1.keep (hb)) (And.intro (S0.out.2.2.1.keep (hb)) (And.intro (S0.out.2.2.2.1.keep (hb)) (And.intro (hX0) (And.intro (hX1) (below_trans (S0.out.2.2.2.2) (hb))))))))
  clear hb hX0 hX1 S0
  generalize ((w.alloc _).alloc _) = W0 at S1 ⊢
  obtain ⟨xa, xb, xc, -, -, -⟩ := S1.out.2.2.2.2.1.facts
  obtain ⟨ya, yb, yc, -, -, -⟩ := S1.out.2.2.2.2.2.1.facts
  go_wp2_with fail
  refine (same_z S1.out.1 S1.out.2.1).mono ?_; rintro e w2 ⟨rfl, hb⟩
  have S2 := Lib.hid (And.intro (S1.out.1.keep (hb)) (And.intro (S1.out.2.1.keep (hb)) (And.intro (S1.out.2.2.1.keep (hb)) (And.intro (S1.out.2.2.2.1.keep (hb)) (And.intro (S1.out.2.2.2.2.1.keep (hb)) (And.intro (S1.out.2.2.2.2.2.1.keep (hb)) (below_trans (S1.out.2.2.2.2.2.2) (hb))))))))
  clear hb xa xb xc ya yb yc S1
  obtain ⟨xa, xb, xc, -, -, -⟩ := S2.out.2.2.2.2.1.facts
  obtain ⟨ya, yb, yc, -, -, -⟩ := S2.out.2.2.2.2.2.1.facts
  go_wp2_with fail
  refine (same_yes S2.out.2.2.1 S2.out.2.2.2.1 rfl).mono ?_; rintro e w3 ⟨rfl, hb⟩
  have S3 := Lib.hid (And.intro (S2.out.1.keep (hb)) (And.intro (S2.out.2.1.keep (hb)) (And.intro (S2.out.2.2.1.keep (hb)) (And.intro (S2.out.2.2.2.1.keep (hb)) (And.intro (S2.out.2.2.2.2.1.keep (hb)) (And.intro (S2.out.2.2.2.2.2.1.keep (hb)) (below_trans (S2.out.2.2.2.2.2.2) (hb))))))))
  clear hb xa xb xc ya yb yc S2
  go_wp2_with fail
  go_ret
  exact ⟨rfl, S3.out.2.2.2.2.2.2⟩
namespace I
/-- v reads the fraction z / n in the document's one form. -/
def Qd (w : World) (L : Nat) (v : Value) (z : Int) (n : Nat) : Prop := ∃ s d, v = .agg #[.bool (decide (z < 0)), s, d] ∧ Dn w L s z.natAbs ∧ Dn w L d n
theorem Qd.keep {w w' : World} {L : Nat} {v : Value} {z : Int} {n : Nat} (h : Qd w L v z n) (hb : Below w.heap.size w w') : Qd w' L v z n := by
  obtain ⟨s, d, h1, h2, h3⟩ := h
  exact ⟨s, d, h1, h2.keep hb, h3.keep hb⟩
theorem Qd.parts {w : World} {L : Nat} {v : Value} {z : Int} {n : Nat} (h : Qd w L v z n) : ∃ p A l c A2 l2 c2, v = .agg #[.bool p, .slice A l c, .slice A2 l2 c2] := by
  obtain ⟨s, d, rfl, ⟨⟨A, c, rfl, -⟩, -⟩, ⟨⟨A2, c2, rfl, -⟩, -⟩⟩ := h
  exact ⟨_, A, _, c, A2, _, c2, rfl⟩
theorem Qd.put3 {t : TypeId} {w : World} {g L : Nat} {v : Value} {p0 : Bool} {A0 A1 : Option Addr} {l0 c0 l1 c1 : Nat} {q : Int} {n : Nat} (h : Qd w L v q n) (X : B3 t w g (.bool p0) (.slice A0 l0 c0) (.slice A1 l1 c1)) (x y z : Value) :
    Qd (((w.setCell ⟨g, 0, none⟩ x).setCell ⟨g, 1, none⟩ y).setCell ⟨g, 2, none⟩ z) L v q n := by
  obtain ⟨s, d, h1, h2, h3⟩ := h
  exact ⟨s, d, h1, h2.put3 X x y z, h3.put3 X x y z⟩
theorem Dn.form {w : World} {L : Nat} {v : Value} {n : Nat} (h : Dn w L v n) : ∃ A l c, v = .slice A l c := by
  obtain ⟨⟨A, c, rfl, -⟩, -⟩ := h
  exact ⟨A, _, c, rfl⟩
theorem one_dn2 (w : World) (o o' : Obj) : Dn (((w.alloc o).alloc o').alloc (.cells #[.int .i64 1] 3)) 1 (.slice (some ⟨w.heap.size + 1 + 1, 0, none⟩) 1 1) 1 := by
  have := one_dn ((w.alloc o).alloc o')
  rwa [World.size_alloc, World.size_alloc] at this
theorem qn_neg {z : Int} {m : Nat} (h : z ≠ 0) : decide (qn z m < 0) = decide (z < 0) := by
  have h1 : 0 < z.natAbs / Nat.gcd z.natAbs m := Nat.div_pos (Nat.gcd_le_left m (by omega)) (Nat.gcd_pos_of_pos_left m (by omega))
  unfold qn
  rw [sg_neg, decide_eq_true (show z.natAbs / Nat.gcd z.natAbs m ≠ 0 by omega), Bool.and_true]
end I
end

section
open Go Go.RowKit Go.Proofs Pl
set_option linter.unusedVariables false
/-- The numerator, when the denominator's sign goes up. -/
def upz (x y : Int) : Int := if y < 0 then -x else x
theorem upz_sg (p q : Bool) (m : Nat) {n : Nat} (h : n ≠ 0) : sg (!(p == q)) m = upz (sg p m) (sg q n) := by
  unfold upz
  cases q
  · rw [if_neg (by simp [sg])]; cases p <;> rfl
  · rw [if_pos (by simp [sg]; omega)]; cases p <;> simp [sg]
theorem one_nm (w : World) : Nm (w.alloc (.cells #[.int .u64 1] 42)) 1 (.slice (some ⟨w.heap.size, 0, none⟩) 1 1) 1 := ⟨[1], nl_one w 1 (by rw [WB_eq]; decide), by simp, by simp [val]⟩
theorem upz_abs (x y : Int) : (upz x y).natAbs = x.natAbs := by unfold upz; split <;> simp
set_option maxRecDepth 100000 in
set_option maxHeartbeats 2000000 in
theorem make_q0 {w : World} {L : Nat} {a c : Value} {x y : Int} (ha : Zn w L a x) (hc : Zn w L c y) (hL : L ≤ 137438953472) (h0 : y = 0) :
    Calls Tryd.prog 12 #[a, c] w fun e w' => e = .returned (.tuple #[.agg #[.bool false, .slice none 0 0, .slice none 0 0], .int .i64 3]) ∧ Below w.heap.size w w' := by
  have hc0 := hc
  obtain ⟨p, s, m, rfl, -, -⟩ := ha
  obtain ⟨q, t, n, rfl, -, -⟩ := hc
  have HE := Lib.hid (And.intro hL (show signZ y = 0 by rw [h0]; rfl))
  have S0 := Lib.hid (And.intro (hc0) (Below.refl w.heap.size w))
  clear hc0 h0 hL
  go_enter Tryd.func12, Tryd.ntmps12
  go_upto_region 1 with (fail)
  have hb := below_trans (below_trans (below_al w (.cells #[.bool p, s] 25)) (below_al _ (.cells #[.bool q, t] 25))) (below_al _ (.cells #[.bool false, .slice none 0 0, .slice none 0 0] 27))
  have hX0 := ((Bx.new 25 w  (.bool p) (s)).alloc (.cells #[.bool q, t] 25)).alloc (.cells #[.bool false, .slice none 0 0, .slice none 0 0] 27)
  have hX1 := (Bx.new1 25 w (.cells #[.bool p, s] 25) (.bool q) (t)).alloc (.cells #[.bool false, .slice none 0 0, .slice none 0 0] 27)
  have hX2 := B3.new2 27 w (.cells #[.bool p, s] 25) (.cells #[.bool q, t] 25) (.bool false) (.slice none 0 0) (.slice none 0 0)
  have S1 := Lib.hid (And.intro (S0.out.1.keep (hb)) (And.intro (hX0) (And.intro (hX1) (And.intro (hX2) (below_trans (S0.out.2) (hb))))))
  clear hb hX0 hX1 hX2 S0
  generalize (((w.alloc _).alloc _).alloc _) = W0 at S1 ⊢
  obtain ⟨ya, yb, -, -⟩ := S1.out.2.2.1.facts
  go_wp2_with fail
  refine (sign_k HE.out.2 S1.out.1 (by have := HE.out; omega)).mono ?_; rintro e w2 ⟨rfl, hb⟩
  have S2 := Lib.hid (And.intro (S1.out.1.keep (hb)) (And.intro (S1.out.2.1.keep (hb)) (And.intro (S1.out.2.2.1.keep (hb)) (And.intro (S1.out.2.2.2.1.keep (hb)) (below_trans (S1.out.2.2.2.2) (hb))))))
  clear hb ya yb S1
  obtain ⟨f0, f1, f2, f3, f4, f5⟩ := S2.out.2.2.2.1.facts
  go_wp2_with fail
  refine ret_b3 S2.out.2.2.2.1 (fun W d0 d1 d2 => by simp [results, Tryd.results12, go_sem, d0, d1, d2]; try rfl) rfl ?_
  exact ⟨rfl, S2.out.2.2.2.1.below S2.out.2.2.2.2 (by omega) _ _ _⟩
set_option maxRecDepth 100000 in
set_option maxHeartbeats 2000000 in
theorem make_q {w : World} {L : Nat} {a c : Value} {x y : Int} (ha : Zn w L a x) (hc : Zn w L c y) (hL : L ≤ 137438953472) (h0 : y ≠ 0) :
    Calls Tryd.prog 12 #[a, c] w fun e w' => ∃ v, e = .returned (.tuple #[v, .int .i64 0]) ∧ Qs w w' v (qn (upz x y) y.natAbs) (qd (upz x y) y.natAbs) := by
  have hc0 := hc
  obtain ⟨p, s, m, rfl, hs, rfl⟩ := ha
  obtain ⟨q, t, n, rfl, ht, ey⟩ := hc
  have hn : y.natAbs = n := by rw [ey, sg_abs]
  have hn0 : n ≠ 0 := fun h => h0 (by rw [ey, h, sg_zero])
  rw [hn, ey, ← upz_sg p q m hn0]
  obtain ⟨k, hk⟩ : ∃ k, signZ y = k := ⟨_, rfl⟩
  have hk0 : (k == 0) = false := beq_eq_false_iff_ne.2 (by rw [← hk]; unfold signZ; rw [if_neg h0]; split <;> decide)
  have HE := Lib.hid (And.intro hL (And.intro hk hn0))
  have S0 := Lib.hid (And.intro (hc0) (And.intro (hs) (And.intro (ht) (Below.refl w.heap.size w))))
  clear hc0 h0 hL hs ht hn ey hk hn0
  go_enter Tryd.func12, Tryd.ntmps12
  go_upto_region 1 with (fail)
  have hb := below_trans (below_trans (below_al w (.cells #[.bool p, s] 25)) (below_al _ (.cells #[.bool q, t] 25))) (below_al _ (.cells #[.bool false, .slice none 0 0, .slice none 0 0] 27))
  have hX0 := ((Bx.new 25 w  (.bool p) (s)).alloc (.cells #[.bool q, t] 25)).alloc (.cells #[.bool false, .slice none 0 0, .slice none 0 0] 27)
  have hX1 := (Bx.new1 25 w (.cells #[.bool p, s] 25) (.bool q) (t)).alloc (.cells #[.bool false, .slice none 0 0, .slice none 0 0] 27)
  have hX2 := B3.new2 27 w (.cells #[.bool p, s] 25) (.cells #[.bool q, t] 25) (.bool false) (.slice none 0 0) (.slice none 0 0)
  have S1 := Lib.hid (And.intro (S0.out.1.keep (hb)) (And.intro (S0.out.2.1.keep (hb)) (And.intro (S0.out.2.2.1.keep (hb)) (And.intro (hX0) (And.intro (hX1) (And.intro (hX2) (below_trans (S0.out.2.2.2) (hb))))))))
  clear hb hX0 hX1 hX2 S0
  generalize (((w.alloc _).alloc _).alloc _) = W0 at S1 ⊢
  obtain ⟨ya, yb, -, -⟩ := S1.out.2.2.2.2.1.facts
  go_wp2_with fail
  refine (sign_k HE.out.2.1 S1.out.1 (by have := HE.out; omega)).mono ?_; rintro e w2 ⟨rfl, hb⟩
  have S2 := Lib.hid (And.intro (S1.out.1.keep (hb)) (And.intro (S1.out.2.1.keep (hb)) (And.intro (S1.out.2.2.1.keep (hb)) (And.intro (S1.out.2.2.2.1.keep (hb)) (And.intro (S1.out.2.2.2.2.1.keep (hb)) (And.intro (S1.out.2.2.2.2.2.1.keep (hb)) (below_trans (S1.out.2.2.2.2.2.2) (hb))))))))
  clear hb ya yb S1
  go_upto_region 3 with (fail)
  have S3 := Lib.hid (And.intro (S2.out.1.keep (below_dr _ 1)) (And.intro (S2.out.2.1.keep (below_dr _ 1)) (And.intro (S2.out.2.2.1.keep (below_dr _ 1)) (And.intro (S2.out.2.2.2.1.keep (below_dr _ 1)) (And.intro (S2.out.2.2.2.2.1.keep (below_dr _ 1)) (And.intro (S2.out.2.2.2.2.2.1.keep (below_dr _ 1)) (below_trans (S2.out.2.2.2.2.2.2) (below_dr _ 1))))))))
  refine wp_region_held_drew (S := fun W => W.cell? ⟨w.heap.size, 0, none⟩ = some (.bool p) ∧ W.cell? ⟨w.heap.size, 1, none⟩ = some (s) ∧ W.cell? ⟨w.heap.size + 1, 0, none⟩ = some (.bool q) ∧ W.cell? ⟨w.heap.size + 1, 1, none⟩ = some (t)) (by kernel_rfl) ⟨S3.out.2.2.2.1.facts.1, S3.out.2.2.2.1.facts.2.1, S3.out.2.2.2.2.1.facts.1, S3.out.2.2.2.2.1.facts.2.1⟩ (fun hHeld => ?_)
  refine rgTake 0 hHeld ?_; try simp only [Act.put, List.setIfInBounds_toArray, List.set_cons_zero, List.set_cons_succ]
  refine rgTake 1 hHeld ?_; try simp only [Act.put, List.setIfInBounds_toArray, List.set_cons_zero, List.set_cons_succ]
  refine rgTake 2 hHeld ?_; try simp only [Act.put, List.setIfInBounds_toArray, List.set_cons_zero, List.set_cons_succ]
  refine rgTake 3 hHeld ?_; try simp only [Act.put, List.setIfInBounds_toArray, List.set_cons_zero, List.set_cons_succ]
  refine rgTake 4 hHeld ?_; try simp only [Act.put, List.setIfInBounds_toArray, List.set_cons_zero, List.set_cons_succ]
  refine rgTake 5 hHeld ?_; try simp only [Act.put, List.setIfInBounds_toArray, List.set_cons_zero, List.set_cons_succ]
  refine rgTake 6 hHeld ?_; try simp only [Act.put, List.setIfInBounds_toArray, List.set_cons_zero, List.set_cons_succ]
  refine rgTake 8 hHeld ?_; try simp only [Act.put, List.setIfInBounds_toArray, List.set_cons_zero, List.set_cons_succ]
  refine rgTake 9 hHeld ?_; try simp only [Act.put, List.setIfInBounds_toArray, List.set_cons_zero, List.set_cons_succ]
  refine rgReady [7] (rgOne (fun K hK => ?_) rgNil)
  go_simp
  go_at_call 13; refine (make_z (!(p == q)) S3.out.2.1 (by have := HE.out; omega)).mono ?_; rintro e w4 ⟨v, rfl, h⟩
  have S4 := Lib.hid (And.intro (S3.out.1.keep (h.below)) (And.intro (S3.out.2.1.keep (h.below)) (And.intro (S3.out.2.2.1.keep (h.below)) (And.intro (S3.out.2.2.2.1.keep (h.below)) (And.intro (S3.out.2.2.2.2.1.keep (h.below)) (And.intro (S3.out.2.2.2.2.2.1.keep (h.below)) (And.intro (h.zn (by rw [sg_abs]; exact S3.out.2.1.lt)) (below_trans (S3.out.2.2.2.2.2.2) (h.below)))))))))
  clear h hHeld
  go_wp2_with fail
  refine hK.out _ _ ⟨S4.out.2.2.2.1.facts.1, S4.out.2.2.2.1.facts.2.1, S4.out.2.2.2.2.1.facts.1, S4.out.2.2.2.2.1.facts.2.1⟩ (fun hHeld => ?_); clear hK K; try simp only [Act.put, List.setIfInBounds_toArray, List.set_cons_zero, List.set_cons_succ]
  refine rgReady [10] (rgOne (fun K hK => ?_) rgNil)
  go_simp
  go_at_call 25; refine (lowest_q S4.out.2.2.2.2.2.2.1 S4.out.2.2.1 HE.out.2.2 (by have := HE.out; omega) (by have := HE.out; omega)).mono ?_; rintro e w5 ⟨v, rfl, h⟩
  obtain ⟨pq, Aq, lq, cq, Ae, le, ce, rfl⟩ := h.qo.parts
  have S5 := Lib.hid (And.intro (S4.out.1.keep (h.below)) (And.intro (S4.out.2.1.keep (h.below)) (And.intro (S4.out.2.2.1.keep (h.below)) (And.intro (S4.out.2.2.2.1.keep (h.below)) (And.intro (S4.out.2.2.2.2.1.keep (h.below)) (And.intro (S4.out.2.2.2.2.2.1.keep (h.below)) (And.intro (S4.out.2.2.2.2.2.2.1.keep (h.below)) (And.intro (h.from S4.out.2.2.2.2.2.2.2) (below_trans (S4.out.2.2.2.2.2.2.2) (h.below))))))))))
  clear h hHeld
  go_wp2_with fail
  refine hK.out _ _ ⟨S5.out.2.2.2.1.facts.1, S5.out.2.2.2.1.facts.2.1, S5.out.2.2.2.2.1.facts.1, S5.out.2.2.2.2.1.facts.2.1⟩ (fun hHeld => ?_); clear hK K; try simp only [Act.put, List.setIfInBounds_toArray, List.set_cons_zero, List.set_cons_succ]
  obtain ⟨f0, f1, f2, f3, f4, f5⟩ := S5.out.2.2.2.2.2.1.facts
  refine rgReady [11] (rgOne (fun K hK => ?_) rgNil)
  go_simp; clear f0 f1 f2 f3 f4 f5
  refine hK.out _ _ ⟨cell_st3 _ S5.out.2.2.2.1.facts.1 (by omega), cell_st3 _ S5.out.2.2.2.1.facts.2.1 (by omega), cell_st3 _ S5.out.2.2.2.2.1.facts.1 (by omega), cell_st3 _ S5.out.2.2.2.2.1.facts.2.1 (by omega)⟩ (fun hHeld => ?_); clear hK K; try simp only [Act.put, List.setIfInBounds_toArray, List.set_cons_zero, List.set_cons_succ]
  refine rgTake 12 hHeld ?_; try simp only [Act.put, List.setIfInBounds_toArray, List.set_cons_zero, List.set_cons_succ]
  refine wpAnyH_done (by kernel_rfl) ?_ _
  clear hHeld
  go_wp2_with fail
  refine ret_b3 S5.out.2.2.2.2.2.1 (fun W d0 d1 d2 => by simp [results, Tryd.results12, go_sem, d0, d1, d2]; try rfl) rfl ?_
  exact ⟨_, rfl, S5.out.2.2.2.2.2.2.2.1.put3 rat_word S5.out.2.2.2.2.2.1 (by omega) _ _ _⟩
/-- The digits of a number. -/
def decT (n : Nat) : ByteArray := ⟨(Lib.decDigits n).toArray⟩
/-- The text of a fraction in its one form. -/
def textQ (z : Int) (n : Nat) : ByteArray := if n = 1 then textZ z else textZ z ++ ByteArray.mk #[47] ++ decT n
theorem bytes_ext {a b : ByteArray} (h : a.data.toList = b.data.toList) : a = b := by rw [← Go.Joins.bytes_eta a, ← Go.Joins.bytes_eta b, h]
theorem app_assoc (a b c : ByteArray) : a ++ b ++ c = a ++ (b ++ c) := bytes_ext (by rw [Go.Joins.data_append, Go.Joins.data_append, Go.Joins.data_append, Go.Joins.data_append, List.append_assoc])
theorem app_size (a b : ByteArray) : (a ++ b).size = a.size + b.size := by rw [Lib.size_eq, Lib.size_eq, Lib.size_eq, Go.Joins.data_append, List.length_append]
theorem decT_size {n L : Nat} (h : n < WB ^ L) (h0 : 0 < L) : (decT n).size ≤ 20 * L := by
  unfold decT; rw [size_toArray]; exact dec_short' h0 h
theorem textZ_size {z : Int} {L : Nat} (h : z.natAbs < WB ^ L) (h0 : 0 < L) : (textZ z).size ≤ 20 * L + 1 := by
  have := decT_size h h0
  unfold textZ
  split
  · rw [app_size]; unfold decT at this; show 1 + _ ≤ _; omega
  · unfold decT at this; omega
theorem Qs.parts {w w' : World} {v : Value} {z : Int} {n : Nat} (h : Qs w w' v z n) : ∃ p A l c A2 l2 c2, v = .agg #[.bool p, .slice A l c, .slice A2 l2 c2] := h.qo.parts
theorem Qo.num {w : World} {p : Bool} {s d : Value} {z : Int} {n : Nat} (h : Qo w (.agg #[.bool p, s, d]) z n) : Zo w (.agg #[.bool p, s]) z := by
  obtain ⟨s', d', e, h1, h2⟩ := h
  injection e with e; injection e with e
  simp only [List.cons.injEq, Value.bool.injEq] at e
  exact ⟨s', by rw [e.1, e.2.1], h1⟩
theorem Qo.den {w : World} {L : Nat} {p : Bool} {s d : Value} {z : Int} {n : Nat} (h : Qo w (.agg #[.bool p, s, d]) z n) (hn : n < WB ^ L) : Nm w L d n := by
  obtain ⟨s', d', e, h1, h2⟩ := h
  injection e with e; injection e with e
  simp only [List.cons.injEq] at e
  rw [e.2.2.1]
  exact ⟨_, h2, dg_length_le WB_one hn, val_dg WB_one _⟩
set_option maxRecDepth 100000 in
set_option maxHeartbeats 2000000 in
theorem qtext_one {w : World} {L : Nat} {a : Value} {b : Bool} {xs ds : List Nat} {z : Int} {n : Nat} (ht : Tab w) (ha : Ql w a b xs ds) (hx : xs.length ≤ L) (hd : ds.length ≤ L) (h1 : 0 < L) (hL : L ≤ 1048576)
    (ez : qn (sg b (val WB xs)) (den (val WB ds)) = z) (en : qd (sg b (val WB xs)) (den (val WB ds)) = n) (h0 : n = 1) (bz : z.natAbs < WB ^ L) (bn : n < WB ^ L) :
    Calls Tryd.prog 18 #[a] w fun e w' => e = .returned (.string (textQ z n)) ∧ Below w.heap.size w w' := by
  have z1 := textZ_size bz h1
  have z2 := decT_size bn h1
  obtain ⟨T, hT⟩ : ∃ T, textZ z = T := ⟨_, rfl⟩
  obtain ⟨D, hD⟩ : ∃ D, decT n = D := ⟨_, rfl⟩
  have et : textQ z n = T := by unfold textQ; rw [if_pos h0, hT]
  rw [et]
  rw [hT] at z1
  rw [hD] at z2
  have s1 : T.size ≤ 21474836480 := by omega
  have s2 : D.size ≤ 21474836480 := by omega
  have s3 : (T ++ ByteArray.mk #[47]).size ≤ 21474836490 := by rw [app_size]; show T.size + 1 ≤ _; omega
  obtain ⟨c, hc⟩ : ∃ c, cmpN n 1 = c := ⟨_, rfl⟩
  have hcw : (c == 0) = true := by rw [← hc, cmpN]; by_cases h : n < 1 <;> by_cases h2 : n = 1 <;> simp [h, h2] <;> omega
  have HE := Lib.hid (And.intro hx (And.intro hd (And.intro h1 (And.intro hL (And.intro hT (And.intro (show (⟨(Lib.decDigits n).toArray⟩ : ByteArray) = D from hD) (And.intro ez (And.intro en (And.intro bz (And.intro bn hc))))))))))
  obtain ⟨A, la, ca, A2, l2, c2, rfl, -, -, ha⟩ := ha.parts
  have HT := Lib.hid ht
  have S0 := Lib.hid (And.intro (ht) (And.intro (ha.out) (Below.refl w.heap.size w)))
  clear ht ha hx hd h1 hL z1 z2 hT hD et hc h0 bz bn ez en
  go_enter Tryd.func18, Tryd.ntmps18
  go_upto_region 1 with (fail)
  have hb := below_al w (.cells #[.bool b, .slice A la ca, .slice A2 l2 c2] 27)
  have hX0 := B3.new 27 w  (.bool b) (.slice A la ca) (.slice A2 l2 c2)
  have S1 := Lib.hid (And.intro (S0.out.1.keep (hb)) (And.intro (S0.out.2.1.keep (hb)) (And.intro (hX0) (below_trans (S0.out.2.2) (hb)))))
  clear hb hX0 S0
  generalize (w.alloc _) = W0 at S1 ⊢
  obtain ⟨xa, xb, xc, -, -, -⟩ := S1.out.2.2.1.facts
  go_wp2_with fail
  refine (form_q S1.out.2.1 HE.out.1 HE.out.2.1 HE.out.2.2.1 (by have := HE.out; omega)).mono ?_; rintro e w2 ⟨v1, rfl, h⟩
  rw [HE.out.2.2.2.2.2.2.1, HE.out.2.2.2.2.2.2.2.1] at h
  obtain ⟨p, Aq, lq, cq, Ae, le, ce, rfl⟩ := h.parts
  have S2 := Lib.hid (And.intro (S1.out.1.keep (h.below)) (And.intro (S1.out.2.1.keep (h.below)) (And.intro (S1.out.2.2.1.keep (h.below)) (And.intro (h.qo) (below_trans (S1.out.2.2.2) (h.below))))))
  clear h xa xb xc S1
  obtain ⟨f0, f1, f2, f3, f4, f5⟩ := S2.out.2.2.1.facts
  go_upto_region 2 with (fail)
  clear f0 f1 f2 f3 f4 f5
  have hq0 : Qo _ _ z n := S2.out.2.2.2.1.ql.put3 S2.out.2.2.1 (.bool p) (.slice Aq lq cq) (.slice Ae le ce)
  have S3 := Lib.hid (And.intro (hq0) (And.intro (S2.out.2.2.1.set (.bool p) (.slice Aq lq cq) (.slice Ae le ce)) ((S2.out.2.2.1.below S2.out.2.2.2.2 (Nat.le_refl _) (.bool p) (.slice Aq lq cq) (.slice Ae le ce)))))
  clear hq0 S2
  generalize ((w2.setCell _ _).setCell _ _).setCell _ _ = W2 at S3 ⊢
  obtain ⟨xa, xb, xc, -, -, -⟩ := S3.out.2.1.facts
  go_wp2_with fail
  refine (cmp_nm ((S3.out.1.den HE.out.2.2.2.2.2.2.2.2.2.1).keep (below_al _ _)) (one_nm _)).mono ?_; rintro e w5 ⟨rfl, hb⟩
  rw [HE.out.2.2.2.2.2.2.2.2.2.2]
  have S4 := Lib.hid (And.intro (S3.out.1.keep ((below_trans (below_al _ _) hb))) (And.intro (S3.out.2.1.keep ((below_trans (below_al _ _) hb))) (below_trans (S3.out.2.2) ((below_trans (below_al _ _) hb)))))
  clear hb xa xb xc S3
  obtain ⟨xa, xb, xc, -, -, -⟩ := S4.out.2.1.facts
  go_wp2_with fail
  refine (text_z (HT.out.keep S4.out.2.2) (S4.out.1.num.zn HE.out.2.2.2.2.2.2.2.2.1) (by have := HE.out; omega)).mono ?_; rintro e w5 ⟨rfl, hb⟩
  rw [HE.out.2.2.2.2.1]
  have S5 := Lib.hid (And.intro (S4.out.1.keep (hb)) (And.intro (S4.out.2.1.keep (hb)) (below_trans (S4.out.2.2) (hb))))
  clear hb xa xb xc S4
  go_wp2_with fail
  go_ret
  exact ⟨rfl, S5.out.2.2⟩
set_option maxRecDepth 100000 in
set_option maxHeartbeats 2000000 in
theorem qtext_two {w : World} {L : Nat} {a : Value} {b : Bool} {xs ds : List Nat} {z : Int} {n : Nat} (ht : Tab w) (ha : Ql w a b xs ds) (hx : xs.length ≤ L) (hd : ds.length ≤ L) (h1 : 0 < L) (hL : L ≤ 1048576)
    (ez : qn (sg b (val WB xs)) (den (val WB ds)) = z) (en : qd (sg b (val WB xs)) (den (val WB ds)) = n) (h0 : n ≠ 1) (bz : z.natAbs < WB ^ L) (bn : n < WB ^ L) :
    Calls Tryd.prog 18 #[a] w fun e w' => e = .returned (.string (textQ z n)) ∧ Below w.heap.size w w' := by
  have z1 := textZ_size bz h1
  have z2 := decT_size bn h1
  obtain ⟨T, hT⟩ : ∃ T, textZ z = T := ⟨_, rfl⟩
  obtain ⟨D, hD⟩ : ∃ D, decT n = D := ⟨_, rfl⟩
  have et : textQ z n = T ++ ByteArray.mk #[47] ++ D := by unfold textQ; rw [if_neg h0, hT, hD]
  rw [et]
  rw [hT] at z1
  rw [hD] at z2
  have s1 : T.size ≤ 21474836480 := by omega
  have s2 : D.size ≤ 21474836480 := by omega
  have s3 : (T ++ ByteArray.mk #[47]).size ≤ 21474836490 := by rw [app_size]; show T.size + 1 ≤ _; omega
  obtain ⟨c, hc⟩ : ∃ c, cmpN n 1 = c := ⟨_, rfl⟩
  have hcw : (c == 0) = false := by rw [← hc, cmpN]; by_cases h : n < 1 <;> by_cases h2 : n = 1 <;> simp [h, h2] <;> omega
  have HE := Lib.hid (And.intro hx (And.intro hd (And.intro h1 (And.intro hL (And.intro hT (And.intro (show (⟨(Lib.decDigits n).toArray⟩ : ByteArray) = D from hD) (And.intro ez (And.intro en (And.intro bz (And.intro bn hc))))))))))
  obtain ⟨A, la, ca, A2, l2, c2, rfl, -, -, ha⟩ := ha.parts
  have HT := Lib.hid ht
  have S0 := Lib.hid (And.intro (ht) (And.intro (ha.out) (Below.refl w.heap.size w)))
  clear ht ha hx hd h1 hL z1 z2 hT hD et hc h0 bz bn ez en
  go_enter Tryd.func18, Tryd.ntmps18
  go_upto_region 1 with (fail)
  have hb := below_al w (.cells #[.bool b, .slice A la ca, .slice A2 l2 c2] 27)
  have hX0 := B3.new 27 w  (.bool b) (.slice A la ca) (.slice A2 l2 c2)
  have S1 := Lib.hid (And.intro (S0.out.1.keep (hb)) (And.intro (S0.out.2.1.keep (hb)) (And.intro (hX0) (below_trans (S0.out.2.2) (hb)))))
  clear hb hX0 S0
  generalize (w.alloc _) = W0 at S1 ⊢
  obtain ⟨xa, xb, xc, -, -, -⟩ := S1.out.2.2.1.facts
  go_wp2_with fail
  refine (form_q S1.out.2.1 HE.out.1 HE.out.2.1 HE.out.2.2.1 (by have := HE.out; omega)).mono ?_; rintro e w2 ⟨v1, rfl, h⟩
  rw [HE.out.2.2.2.2.2.2.1, HE.out.2.2.2.2.2.2.2.1] at h
  obtain ⟨p, Aq, lq, cq, Ae, le, ce, rfl⟩ := h.parts
  have S2 := Lib.hid (And.intro (S1.out.1.keep (h.below)) (And.intro (S1.out.2.1.keep (h.below)) (And.intro (S1.out.2.2.1.keep (h.below)) (And.intro (h.qo) (below_trans (S1.out.2.2.2) (h.below))))))
  clear h xa xb xc S1
  obtain ⟨f0, f1, f2, f3, f4, f5⟩ := S2.out.2.2.1.facts
  go_upto_region 2 with (fail)
  clear f0 f1 f2 f3 f4 f5
  have hq0 : Qo _ _ z n := S2.out.2.2.2.1.ql.put3 S2.out.2.2.1 (.bool p) (.slice Aq lq cq) (.slice Ae le ce)
  have S3 := Lib.hid (And.intro (hq0) (And.intro (S2.out.2.2.1.set (.bool p) (.slice Aq lq cq) (.slice Ae le ce)) ((S2.out.2.2.1.below S2.out.2.2.2.2 (Nat.le_refl _) (.bool p) (.slice Aq lq cq) (.slice Ae le ce)))))
  clear hq0 S2
  generalize ((w2.setCell _ _).setCell _ _).setCell _ _ = W2 at S3 ⊢
  obtain ⟨xa, xb, xc, -, -, -⟩ := S3.out.2.1.facts
  go_wp2_with fail
  refine (cmp_nm ((S3.out.1.den HE.out.2.2.2.2.2.2.2.2.2.1).keep (below_al _ _)) (one_nm _)).mono ?_; rintro e w5 ⟨rfl, hb⟩
  rw [HE.out.2.2.2.2.2.2.2.2.2.2]
  have S4 := Lib.hid (And.intro (S3.out.1.keep ((below_trans (below_al _ _) hb))) (And.intro (S3.out.2.1.keep ((below_trans (below_al _ _) hb))) (below_trans (S3.out.2.2) ((below_trans (below_al _ _) hb)))))
  clear hb xa xb xc S3
  go_upto_region 4 with (fail)
  have S5 := Lib.hid (And.intro (S4.out.1.keep (below_dr _ 1)) (And.intro (S4.out.2.1.keep (below_dr _ 1)) (below_trans (S4.out.2.2) (below_dr _ 1))))
  refine wp_region_held_drew (S := fun W => W.cell? ⟨w.heap.size, 0, none⟩ = some (.bool p) ∧ W.cell? ⟨w.heap.size, 1, none⟩ = some (.slice Aq lq cq) ∧ W.cell? ⟨w.heap.size, 2, none⟩ = some (.slice Ae le ce)) (by kernel_rfl) ⟨S5.out.2.1.facts.1, S5.out.2.1.facts.2.1, S5.out.2.1.facts.2.2.1⟩ (fun hHeld => ?_)
  refine rgTake 0 hHeld ?_; try simp only [Act.put, List.setIfInBounds_toArray, List.set_cons_zero, List.set_cons_succ]
  refine rgTake 1 hHeld ?_; try simp only [Act.put, List.setIfInBounds_toArray, List.set_cons_zero, List.set_cons_succ]
  refine rgTake 4 hHeld ?_; try simp only [Act.put, List.setIfInBounds_toArray, List.set_cons_zero, List.set_cons_succ]
  refine rgTake 5 hHeld ?_; try simp only [Act.put, List.setIfInBounds_toArray, List.set_cons_zero, List.set_cons_succ]
  refine rgReady [2] (rgOne (fun K hK => ?_) rgNil)
  go_simp
  go_at_call 33; refine (text_z (HT.out.keep S5.out.2.2) (S5.out.1.num.zn HE.out.2.2.2.2.2.2.2.2.1) (by have := HE.out; omega)).mono ?_; rintro e w6 ⟨rfl, hb⟩
  rw [HE.out.2.2.2.2.1]
  have S6 := Lib.hid (And.intro (S5.out.1.keep (hb)) (And.intro (S5.out.2.1.keep (hb)) (below_trans (S5.out.2.2) (hb))))
  clear hb hHeld
  go_wp2_with fail
  refine hK.out _ _ ⟨S6.out.2.1.facts.1, S6.out.2.1.facts.2.1, S6.out.2.1.facts.2.2.1⟩ (fun hHeld => ?_); clear hK K; try simp only [Act.put, List.setIfInBounds_toArray, List.set_cons_zero, List.set_cons_succ]
  refine rgTake 3 hHeld ?_; try simp only [Act.put, List.setIfInBounds_toArray, List.set_cons_zero, List.set_cons_succ]
  refine rgReady [6] (rgOne (fun K hK => ?_) rgNil)
  go_simp
  go_at_call 34; refine (text_nm (S6.out.1.den HE.out.2.2.2.2.2.2.2.2.2.1) (by have := HE.out; omega) (HT.out.keep S6.out.2.2)).mono ?_; rintro e w7 ⟨rfl, hb⟩
  rw [HE.out.2.2.2.2.2.1]
  have S7 := Lib.hid (And.intro (S6.out.1.keep (hb)) (And.intro (S6.out.2.1.keep (hb)) (below_trans (S6.out.2.2) (hb))))
  clear hb hHeld
  go_wp2_with fail
  refine hK.out _ _ ⟨S7.out.2.1.facts.1, S7.out.2.1.facts.2.1, S7.out.2.1.facts.2.2.1⟩ (fun hHeld => ?_); clear hK K; try simp only [Act.put, List.setIfInBounds_toArray, List.set_cons_zero, List.set_cons_succ]
  refine rgTake 7 hHeld ?_; try simp only [Act.put, List.setIfInBounds_toArray, List.set_cons_zero, List.set_cons_succ]
  refine rgTake 8 hHeld ?_; try simp only [Act.put, List.setIfInBounds_toArray, List.set_cons_zero, List.set_cons_succ]
  refine wpAnyH_done (by kernel_rfl) ?_ _
  clear hHeld
  go_wp2_with fail
  go_ret
  exact ⟨rfl, S7.out.2.2⟩
theorem qtext_q {w : World} {L : Nat} {a : Value} {b : Bool} {xs ds : List Nat} (ht : Tab w) (ha : Ql w a b xs ds) (hx : xs.length ≤ L) (hd : ds.length ≤ L) (h1 : 0 < L) (hL : L ≤ 1048576) :
    Calls Tryd.prog 18 #[a] w fun e w' => e = .returned (.string (textQ (qn (sg b (val WB xs)) (den (val WB ds))) (qd (sg b (val WB xs)) (den (val WB ds))))) ∧ Below w.heap.size w w' := by
  obtain ⟨s, d, rfl, hs, hdn⟩ := id ha
  have b1 : (qn (sg b (val WB xs)) (den (val WB ds))).natAbs < WB ^ L := by
    rw [qn_abs, sg_abs]
    exact Nat.lt_of_le_of_lt (Nat.div_le_self _ _) (Nat.lt_of_lt_of_le (val_lt hs.all) (Nat.pow_le_pow_right WB_pos hx))
  have b2 : qd (sg b (val WB xs)) (den (val WB ds)) < WB ^ L := by
    unfold qd
    exact Nat.lt_of_le_of_lt (Nat.div_le_self _ _) (den_lt (Nat.lt_of_lt_of_le (val_lt hdn.all) (Nat.pow_le_pow_right WB_pos hd)) h1)
  by_cases h0 : qd (sg b (val WB xs)) (den (val WB ds)) = 1
  · exact qtext_one ht ha hx hd h1 hL rfl rfl h0 b1 b2
  · exact qtext_two ht ha hx hd h1 hL rfl rfl h0 b1 b2
end

section
open Go Go.RowKit Go.Proofs Pl
set_option linter.unusedVariables false

/-- A text of these bytes. -/
def St (l : List UInt8) : ByteArray := ⟨l.toArray⟩
theorem st_list (l : List UInt8) : (St l).data.toList = l := by simp [St]
theorem st_size (l : List UInt8) : (St l).size = l.length := by rw [Lib.size_eq, st_list]
theorem st_eta (s : ByteArray) : St s.data.toList = s := Go.Joins.bytes_eta s
/-- What take leaves: the byte at the beginning, if it is one of these, taken off. -/
def cutC (any l : List UInt8) : Bool × List UInt8 := match l with
  | [] => (false, [])
  | c :: t => if any.contains c then (true, t) else (false, c :: t)
theorem extract_one (s : ByteArray) : s.extract 1 s.size = St (s.data.toList.drop 1) := bytes_ext (by rw [cut_toList, st_list])
theorem u8_back (c : UInt8) : ((c.toNat : Int).toNat).toUInt8 = c := by simp
set_option maxRecDepth 100000 in
theorem take_s {w : World} {g : Nat} {r any : ByteArray} {n : Int} (X : Bx 54 w g (.string r) (.int .i64 n)) :
    Calls Tryd.prog 20 #[.pointer (some ⟨g, 0, none⟩), .string any] w fun e w' => e = .returned (.bool (cutC any.data.toList r.data.toList).1) ∧
      Bx 54 w' g (.string (St (cutC any.data.toList r.data.toList).2)) (.int .i64 n) ∧ w.grownBy w' (some g) := by
  obtain ⟨x0, x1, x2, x3⟩ := X.facts
  have HX := Lib.hid X
  cases hl : r.data.toList with
  | nil =>
    have hemp : r.toList.isEmpty = true := by rw [Lib.toList_data, hl]; rfl
    have hr : r = St [] := by rw [← hl, st_eta]
    have HR := Lib.hid hr
    clear X hl hr
    go_enter Tryd.func20, Tryd.ntmps20
    go_wp2_with fail
    go_ret
    refine ⟨rfl, ?_, World.grownBy.refl _ _⟩
    show Bx _ w g (.string (St [])) _
    rw [← HR.out]; exact HX.out
  | cons c t =>
    have hemp : r.toList.isEmpty = false := by rw [Lib.toList_data, hl]; rfl
    have h0 : 0 < r.size := by rw [Lib.size_eq, hl]; simp
    have h0I : (0 : Int) < (r.size : Int) := by omega
    have hc : r[0] = c := by
      have := head_at h0
      rw [hl] at this
      injection this with this
      exact this.symm
    have hk := Lib.contains_iff_indexByte any.data.toList c
    obtain ⟨k, ek⟩ : ∃ k, Lib.indexByte any.data.toList c = k := ⟨_, rfl⟩
    rw [ek] at hk
    have hi := fun W => Tryd.strings_IndexByte any (r[0].toNat : Int) W
    simp only [u8_back, hc, ek] at hi
    have HI := Lib.hid hi
    have HR := Lib.hid (And.intro hl hc)
    have hr : r = St (c :: t) := by rw [← hl, st_eta]
    have hs : r.extract 1 r.size = St t := by rw [extract_one, hl]; rfl
    have HS := Lib.hid (And.intro hr hs)
    by_cases hb : 0 ≤ k
    · have hcut : cutC any.data.toList (c :: t) = (true, t) := by unfold cutC; simp only; rw [if_pos (by rw [hk]; exact decide_eq_true hb)]
      rw [hcut]
      have hd : decide (k < 0) = false := decide_eq_false (by omega)
      clear X hl hk ek hi hr hs hb hcut
      go_enter Tryd.func20, Tryd.ntmps20
      go_wp2_with fail
      refine (HI.out _).mono ?_; rintro e w' ⟨rfl, rfl⟩
      go_wp2_with fail
      go_ret
      refine ⟨rfl, ?_, Lib.grownBy_setCell _ _ _ _⟩
      rw [HS.out.2]
      exact HX.out.set0 _
    · have hcut : cutC any.data.toList (c :: t) = (false, c :: t) := by unfold cutC; simp only; rw [if_neg (by rw [hk]; simpa using hb)]
      rw [hcut]
      have hd : decide (k < 0) = true := decide_eq_true (by omega)
      clear X hl hk ek hi hr hs hb hcut
      go_enter Tryd.func20, Tryd.ntmps20
      go_wp2_with fail
      refine (HI.out _).mono ?_; rintro e w' ⟨rfl, rfl⟩
      go_wp2_with fail
      go_ret
      refine ⟨rfl, ?_, World.grownBy.refl _ _⟩
      rw [← HS.out.1]
      exact HX.out
/-- The ten digits. -/
def tenD : List UInt8 := [48, 49, 50, 51, 52, 53, 54, 55, 56, 57]
theorem ten_has (c : UInt8) : tenD.contains c = digB c := by
  have key : ∀ n : Nat, n < 256 → tenD.contains (UInt8.ofNat n) = digB (UInt8.ofNat n) := by decide +kernel
  have := key c.toNat (UInt8.toNat_lt c)
  rwa [UInt8.ofNat_toNat] at this
/-- The digits at the beginning, and what is behind them. -/
def digs (l : List UInt8) : List UInt8 := l.takeWhile digB
def rest (l : List UInt8) : List UInt8 := l.dropWhile digB
theorem digs_rest (l : List UInt8) : digs l ++ rest l = l := List.takeWhile_append_dropWhile
theorem trim_rest (l : List UInt8) : Lib.trimLeftS l tenD = rest l := by
  unfold Lib.trimLeftS rest
  congr 1
  funext c
  exact ten_has c
theorem extract_pre (s : ByteArray) {a b : List UInt8} (h : s.data.toList = a ++ b) : s.extract 0 a.length = St a := bytes_ext (by
  rw [st_list]
  have : (s.extract 0 a.length).data.toList = s.data.toList.take a.length := by
    rw [ByteArray.data_extract]; simp
  rw [this, h, List.take_left])
theorem extract_suf (s : ByteArray) {a b : List UInt8} (h : s.data.toList = a ++ b) : s.extract a.length s.size = St b := bytes_ext (by
  rw [st_list]
  have hs : s.size = s.data.toList.length := Lib.size_eq s
  have : (s.extract a.length s.size).data.toList = s.data.toList.drop a.length := by
    rw [ByteArray.data_extract]
    simp only [Array.toList_extract, List.extract_eq_take_drop]
    exact List.take_of_length_le (by rw [List.length_drop, hs]; exact Nat.le_refl _)
  rw [this, h, List.drop_left])
theorem trimLeft_t (s : ByteArray) (w : World) : Calls Tryd.prog 37 #[.string s, .string ⟨#[48, 49, 50, 51, 52, 53, 54, 55, 56, 57]⟩] w fun e w' => e = .returned (.string (St (rest s.data.toList))) ∧ Below w.heap.size w w' := by
  have h := Any.strings_TrimLeft_laid Tryd.lays161 (by kernel_rfl) s ⟨#[48, 49, 50, 51, 52, 53, 54, 55, 56, 57]⟩ w (by decide) (ascii_of_all (by decide))
  rw [show Lib.trimLeftS s.data.toList (ByteArray.mk #[48, 49, 50, 51, 52, 53, 54, 55, 56, 57]).data.toList = rest s.data.toList from trim_rest _] at h
  exact h
set_option maxRecDepth 100000 in
set_option maxHeartbeats 2000000 in
theorem run_s {w : World} {g : Nat} {r : ByteArray} {n : Nat} (X : Bx 54 w g (.string r) (.int .i64 (n : Int))) (hn : n + r.size ≤ 9223372036854775807) :
    Calls Tryd.prog 21 #[.pointer (some ⟨g, 0, none⟩)] w fun e w' => e = .returned (.string (St (digs r.data.toList))) ∧
      Bx 54 w' g (.string (St (rest r.data.toList))) (.int .i64 ((n + (digs r.data.toList).length : Nat) : Int)) ∧ (∃ W, Below w.heap.size w W ∧ W.grownBy w' (some g)) := by
  have hdr := digs_rest r.data.toList
  have hlen : (digs r.data.toList).length + (rest r.data.toList).length = r.size := by rw [← List.length_append, hdr, Lib.size_eq]
  obtain ⟨k, hk⟩ : ∃ k, k = (digs r.data.toList).length := ⟨_, rfl⟩
  have e1 := extract_pre r hdr.symm
  have e2 := extract_suf r hdr.symm
  have e3 := st_size (rest r.data.toList)
  rw [← hk] at e1 e2 hlen ⊢
  have ht := fun W => trimLeft_t r W
  obtain ⟨q, hq⟩ : ∃ q, St (rest r.data.toList) = q := ⟨_, rfl⟩
  obtain ⟨d, hd⟩ : ∃ d, St (digs r.data.toList) = d := ⟨_, rfl⟩
  rw [hq] at e2 e3 ⊢
  rw [hd] at e1 ⊢
  simp only [hq] at ht
  obtain ⟨m, hm⟩ : ∃ m : Nat, m = n + k := ⟨_, rfl⟩
  rw [← hm]
  have f1 : IntKind.i64.wrap ((r.size : Int) - (q.size : Int)) = (k : Int) := by rw [show (r.size : Int) - (q.size : Int) = (k : Int) by omega]; exact IntWalk.i64_in _ (by omega)
  have f2 : IntKind.i64.wrap ((n : Int) + (k : Int)) = (m : Int) := by rw [show (n : Int) + (k : Int) = (m : Int) by omega]; exact IntWalk.i64_in _ (by omega)
  have f3 : (k : Int) ≤ (r.size : Int) := by omega
  have HE := Lib.hid (And.intro ht (And.intro e1 e2))
  have S0 := Lib.hid (And.intro (X) (Below.refl w.heap.size w))
  clear X hn hdr hlen hk e1 e2 e3 ht hq hd hm
  go_enter Tryd.func21, Tryd.ntmps21
  go_upto_region 1 with (fail)
  have S1 := Lib.hid (And.intro (S0.out.1.keep (below_dr _ 1)) (below_trans (S0.out.2) (below_dr _ 1)))
  refine wp_region_held_drew (S := fun W => W.cell? ⟨g, 0, none⟩ = some (.string r) ∧ W.cell? ⟨g, 1, none⟩ = some (.int .i64 (n : Int))) (by kernel_rfl) ⟨S1.out.1.facts.1, S1.out.1.facts.2.1⟩ (fun hHeld => ?_)
  refine rgTake 0 hHeld ?_; try simp only [Act.put, List.setIfInBounds_toArray, List.set_cons_zero, List.set_cons_succ]
  refine rgTake 1 hHeld ?_; try simp only [Act.put, List.setIfInBounds_toArray, List.set_cons_zero, List.set_cons_succ]
  refine rgTake 2 hHeld ?_; try simp only [Act.put, List.setIfInBounds_toArray, List.set_cons_zero, List.set_cons_succ]
  refine rgTake 3 hHeld ?_; try simp only [Act.put, List.setIfInBounds_toArray, List.set_cons_zero, List.set_cons_succ]
  refine rgTake 4 hHeld ?_; try simp only [Act.put, List.setIfInBounds_toArray, List.set_cons_zero, List.set_cons_succ]
  refine rgTake 5 hHeld ?_; try simp only [Act.put, List.setIfInBounds_toArray, List.set_cons_zero, List.set_cons_succ]
  refine rgTake 6 hHeld ?_; try simp only [Act.put, List.setIfInBounds_toArray, List.set_cons_zero, List.set_cons_succ]
  refine rgTake 7 hHeld ?_; try simp only [Act.put, List.setIfInBounds_toArray, List.set_cons_zero, List.set_cons_succ]
  refine rgTake 8 hHeld ?_; try simp only [Act.put, List.setIfInBounds_toArray, List.set_cons_zero, List.set_cons_succ]
  refine rgTake 9 hHeld ?_; try simp only [Act.put, List.setIfInBounds_toArray, List.set_cons_zero, List.set_cons_succ]
  refine rgTake 10 hHeld ?_; try simp only [Act.put, List.setIfInBounds_toArray, List.set_cons_zero, List.set_cons_succ]
  refine rgReady [11] (rgOne (fun K hK => ?_) rgNil)
  go_simp
  go_at_call 37; refine (HE.out.1 _).mono ?_; rintro e w2 ⟨rfl, hb⟩
  have S2 := Lib.hid (And.intro (S1.out.1.keep (hb)) (below_trans (S1.out.2) (hb)))
  clear hb hHeld
  go_wp2_with fail
  refine hK.out _ _ ⟨S2.out.1.facts.1, S2.out.1.facts.2.1⟩ (fun hHeld => ?_); clear hK K; try simp only [Act.put, List.setIfInBounds_toArray, List.set_cons_zero, List.set_cons_succ]
  refine rgTake 12 hHeld ?_; try simp only [Act.put, List.setIfInBounds_toArray, List.set_cons_zero, List.set_cons_succ]
  refine rgTake 13 hHeld ?_; try simp only [Act.put, List.setIfInBounds_toArray, List.set_cons_zero, List.set_cons_succ]
  refine rgTake 14 hHeld ?_; try simp only [Act.put, List.setIfInBounds_toArray, List.set_cons_zero, List.set_cons_succ]
  refine wpAnyH_done (by kernel_rfl) ?_ _
  clear hHeld
  obtain ⟨x0, x1, x2, x3⟩ := S2.out.1.facts
  go_wp2_with fail
  go_ret
  refine ⟨?_, ?_, w2, S2.out.2, ?_⟩
  · show Ending.returned (Value.string (r.extract 0 k)) = _
    rw [HE.out.2.1]
  · rw [HE.out.2.2]; exact S2.out.1.set _ _
  · exact grown_set (Lib.grownBy_setCell w2 g 0 _) 1 _
end

section
open Go Go.RowKit Go.Proofs Pl
set_option linter.unusedVariables false

/-- Block g is the variable of a struct of six cells. -/
def B6 (t : TypeId) (w : World) (g : Nat) (a b c d e f : Value) : Prop := w.heap[g]? = some (.cells #[a, b, c, d, e, f] t (0, 0))
section
variable {t : TypeId} {w w' : World} {g k : Nat} {a b c d e f x : Value}
theorem B6.lt (h : B6 t w g a b c d e f) : g < w.heap.size := heap_lt h
theorem B6.facts (h : B6 t w g a b c d e f) : w.cell? ⟨g, 0, none⟩ = some a ∧ w.cell? ⟨g, 1, none⟩ = some b ∧ w.cell? ⟨g, 2, none⟩ = some c ∧ w.cell? ⟨g, 3, none⟩ = some d ∧ w.cell? ⟨g, 4, none⟩ = some e ∧ w.cell? ⟨g, 5, none⟩ = some f ∧
    w.frozen? ⟨g, 0, none⟩ = false ∧ w.frozen? ⟨g, 1, none⟩ = false ∧ w.frozen? ⟨g, 2, none⟩ = false ∧ w.frozen? ⟨g, 3, none⟩ = false ∧ w.frozen? ⟨g, 4, none⟩ = false ∧ w.frozen? ⟨g, 5, none⟩ = false := by
  have h' : w.heap[g]? = _ := h
  refine ⟨?_, ?_, ?_, ?_, ?_, ?_, ?_, ?_, ?_, ?_, ?_, ?_⟩ <;> simp [World.cell?, World.frozen?, h']
theorem B6.new (t : TypeId) (w : World) (a b c d e f : Value) : B6 t (w.alloc (.cells #[a, b, c, d, e, f] t)) w.heap.size a b c d e f := World.alloc_heap_new w _
theorem B6.keep (h : B6 t w g a b c d e f) (hb : Below w.heap.size w w') : B6 t w' g a b c d e f := (hb.block g h.lt).trans h
theorem B6.alloc (h : B6 t w g a b c d e f) (o : Obj) : B6 t (w.alloc o) g a b c d e f := (Below.heap_alloc w o g h.lt).trans h
theorem B6.grown (h : B6 t w g a b c d e f) (hg : w.grownBy w' (some k)) (hk : g ≠ k) : B6 t w' g a b c d e f := (hg.block g h.lt (fun e => hk (Option.some.inj e))).trans h
theorem B6.other (h : B6 t w g a b c d e f) {p : Addr} (hp : p.block ≠ g) (u : Value) : B6 t (w.setCell p u) g a b c d e f := (Below.heap_setCell w p u g (fun e => hp e.symm)).trans h
theorem Bx.grown {y : Value} (h : Bx t w g a b) (hg : w.grownBy w' (some k)) (hk : g ≠ k) : Bx t w' g a b := (hg.block g h.lt (fun e => hk (Option.some.inj e))).trans h
theorem B6.set0 (h : B6 t w g a b c d e f) (x : Value) : B6 t (w.setCell ⟨g, 0, none⟩ x) g x b c d e f := by
  obtain ⟨hlt, hk⟩ := Array.getElem?_eq_some_iff.1 h
  show (w.heap.modify g _)[g]? = _
  rw [Array.getElem?_eq_getElem (by rw [Array.size_modify]; exact hlt), Array.getElem_modify_self, hk]
  rfl
theorem B6.set1 (h : B6 t w g a b c d e f) (x : Value) : B6 t (w.setCell ⟨g, 1, none⟩ x) g a x c d e f := by
  obtain ⟨hlt, hk⟩ := Array.getElem?_eq_some_iff.1 h
  show (w.heap.modify g _)[g]? = _
  rw [Array.getElem?_eq_getElem (by rw [Array.size_modify]; exact hlt), Array.getElem_modify_self, hk]
  rfl
theorem B6.set2 (h : B6 t w g a b c d e f) (x : Value) : B6 t (w.setCell ⟨g, 2, none⟩ x) g a b x d e f := by
  obtain ⟨hlt, hk⟩ := Array.getElem?_eq_some_iff.1 h
  show (w.heap.modify g _)[g]? = _
  rw [Array.getElem?_eq_getElem (by rw [Array.size_modify]; exact hlt), Array.getElem_modify_self, hk]
  rfl
theorem B6.set3 (h : B6 t w g a b c d e f) (x : Value) : B6 t (w.setCell ⟨g, 3, none⟩ x) g a b c x e f := by
  obtain ⟨hlt, hk⟩ := Array.getElem?_eq_some_iff.1 h
  show (w.heap.modify g _)[g]? = _
  rw [Array.getElem?_eq_getElem (by rw [Array.size_modify]; exact hlt), Array.getElem_modify_self, hk]
  rfl
theorem B6.set4 (h : B6 t w g a b c d e f) (x : Value) : B6 t (w.setCell ⟨g, 4, none⟩ x) g a b c d x f := by
  obtain ⟨hlt, hk⟩ := Array.getElem?_eq_some_iff.1 h
  show (w.heap.modify g _)[g]? = _
  rw [Array.getElem?_eq_getElem (by rw [Array.size_modify]; exact hlt), Array.getElem_modify_self, hk]
  rfl
theorem B6.set5 (h : B6 t w g a b c d e f) (x : Value) : B6 t (w.setCell ⟨g, 5, none⟩ x) g a b c d e x := by
  obtain ⟨hlt, hk⟩ := Array.getElem?_eq_some_iff.1 h
  show (w.heap.modify g _)[g]? = _
  rw [Array.getElem?_eq_getElem (by rw [Array.size_modify]; exact hlt), Array.getElem_modify_self, hk]
  rfl
theorem B6.self (h : B6 t w g a b c d e f) : B6 t ((((((w.setCell ⟨g, 0, none⟩ a).setCell ⟨g, 1, none⟩ b).setCell ⟨g, 2, none⟩ c).setCell ⟨g, 3, none⟩ d).setCell ⟨g, 4, none⟩ e).setCell ⟨g, 5, none⟩ f) g a b c d e f := (((((h.set0 a).set1 b).set2 c).set3 d).set4 e).set5 f
theorem Bx.other6 {y z : Value} (h : Bx t w k y z) (hp : g ≠ k) : Bx t ((((((w.setCell ⟨g, 0, none⟩ a).setCell ⟨g, 1, none⟩ b).setCell ⟨g, 2, none⟩ c).setCell ⟨g, 3, none⟩ d).setCell ⟨g, 4, none⟩ e).setCell ⟨g, 5, none⟩ f) k y z := (((((h.other hp a).other hp b).other hp c).other hp d).other hp e).other hp f
theorem below6 {B : Nat} {w0 : World} (hb : Below B w0 w) (hg : B ≤ g) : Below B w0 ((((((w.setCell ⟨g, 0, none⟩ a).setCell ⟨g, 1, none⟩ b).setCell ⟨g, 2, none⟩ c).setCell ⟨g, 3, none⟩ d).setCell ⟨g, 4, none⟩ e).setCell ⟨g, 5, none⟩ f) := (((((hb.setCell hg a).setCell hg b).setCell hg c).setCell hg d).setCell hg e).setCell hg f
theorem ret_b6 {P : Program} {fn : Func} {R : Ending → World → Prop} {act : Act} {U : Value} (X : B6 t w g a b c d e f)
    (hr : ∀ W : World, W.cell? ⟨g, 0, none⟩ = some a → W.cell? ⟨g, 1, none⟩ = some b → W.cell? ⟨g, 2, none⟩ = some c → W.cell? ⟨g, 3, none⟩ = some d → W.cell? ⟨g, 4, none⟩ = some e → W.cell? ⟨g, 5, none⟩ = some f → (results fn act.tmps).run P W = .ok U W) (hd : act.defers = [])
    (hR : R (.returned U) w) : bodyPost P fn R .ret act w :=
  bodyPost_ret (hr _ X.facts.1 X.facts.2.1 X.facts.2.2.1 X.facts.2.2.2.1 X.facts.2.2.2.2.1 X.facts.2.2.2.2.2.1) hd hR
end
theorem below_one {w W W' : World} {g : Nat} (hb : Below w.heap.size w W) (hg : W.grownBy W' (some g)) (h : w.heap.size ≤ g) : Below w.heap.size w W' :=
  hb.grown hg hb.size (fun k hk => by injection hk with hk; omega)
/-- take, where it is known what it cuts. -/
theorem take_l {w : World} {g : Nat} {any : ByteArray} {l l' : List UInt8} {b : Bool} {n : Int} (hcut : cutC any.data.toList l = (b, l')) (X : Bx 54 w g (.string (St l)) (.int .i64 n)) :
    Calls Tryd.prog 20 #[.pointer (some ⟨g, 0, none⟩), .string any] w fun e w' => e = .returned (.bool b) ∧ Bx 54 w' g (.string (St l')) (.int .i64 n) ∧ w.grownBy w' (some g) := by
  have h := take_s (any := any) X
  rw [st_list, hcut] at h
  exact h
theorem run_l {w : World} {g n m : Nat} {l d l' : List UInt8} (hd : digs l = d) (hr : rest l = l') (hm : n + d.length = m) (hn : n + l.length ≤ 9223372036854775807) (X : Bx 54 w g (.string (St l)) (.int .i64 (n : Int))) :
    Calls Tryd.prog 21 #[.pointer (some ⟨g, 0, none⟩)] w fun e w' => e = .returned (.string (St d)) ∧ Bx 54 w' g (.string (St l')) (.int .i64 (m : Int)) ∧ (∃ W, Below w.heap.size w W ∧ W.grownBy w' (some g)) := by
  have h := run_s X (by rw [st_size]; exact hn)
  rw [st_list, hd, hr, hm] at h
  exact h
theorem digs_le (l : List UInt8) : (digs l).length + (rest l).length = l.length := by rw [← List.length_append, digs_rest]
theorem cut_le (any l : List UInt8) : (cutC any l).2.length ≤ l.length := by
  unfold cutC
  cases l with
  | nil => simp
  | cons c t => simp only; split <;> simp
theorem st_nil (l : List UInt8) : (St l).toList.isEmpty = l.isEmpty := by rw [Lib.toList_data, st_list]
theorem prefix_st (l : List UInt8) (w : World) : Calls Tryd.prog 19 #[.string (St l), .string ⟨#[45]⟩] w fun e w' => e = .returned (.bool (l.head? == some 45)) ∧ w' = w := by
  have h := Tryd.strings_HasPrefix (St l) ⟨#[45]⟩ w
  rw [show Lib.hasPrefix (St l).data.toList (ByteArray.mk #[45]).data.toList = (l.head? == some 45) from by rw [show (ByteArray.mk #[45]).data.toList = [45] from rfl, pre_one, st_list]] at h
  exact h
end

section
open Go Go.RowKit Go.Proofs Pl
set_option linter.unusedVariables false
/-- The number that value answers. -/
def valT (l : List UInt8) : Nat := if parseErr l = 0 then decV l else 0
theorem valT_lt (l : List UInt8) : valT l < WB ^ 200 := parse_lt
set_option maxRecDepth 100000 in
theorem value_s {w : World} (s : ByteArray) (hs : s.size ≤ 9223372036854775807) : Calls Tryd.prog 10 #[.string s] w fun e w' => ∃ v, e = .returned v ∧ Rs w w' v (valT s.data.toList) := by
  have hp := fun W => parse_any s W hs
  unfold ParseSays at hp
  simp only [parse_words] at hp
  obtain ⟨pe, hpe⟩ : ∃ pe, parseErr s.data.toList = pe := ⟨_, rfl⟩
  have hv : (if parseErr s.data.toList = 0 then decV s.data.toList else 0) = valT s.data.toList := rfl
  simp only [hv] at hp
  rw [hpe] at hp
  obtain ⟨n, hn⟩ : ∃ n, valT s.data.toList = n := ⟨_, rfl⟩
  rw [hn] at hp ⊢
  have HP := Lib.hid hp
  clear hp hpe hn hv hs
  go_enter Tryd.func10, Tryd.ntmps10
  go_wp2_with fail
  refine (HP.out _).mono ?_; rintro e w1 ⟨v, rfl, ho, hb⟩
  have HO := Lib.hid (show Rs w w1 v n from ⟨ho, hb⟩)
  clear ho hb
  go_wp2_with fail
  go_ret
  exact ⟨_, rfl, HO.out⟩
theorem repeat_rep (n : Nat) : Lib.repeatL [48] n = List.replicate n (48 : UInt8) := by
  induction n with
  | zero => rfl
  | succ n ih => rw [List.replicate_succ, ← ih]; rfl
theorem decV_tens (n : Nat) : decV (49 :: List.replicate n 48) = 10 ^ n := by
  induction n with
  | zero => rfl
  | succ n ih =>
    rw [List.replicate_succ', ← List.cons_append, decV_snoc, ih, Nat.pow_succ]
    simp
theorem tens_val {n : Nat} (hn : n ≤ 199) : valT (49 :: List.replicate n 48) = 10 ^ n := by
  unfold valT
  have h1 : allDig (49 :: List.replicate n 48) = true := by
    unfold allDig
    rw [List.all_eq_true]
    intro x hx
    rcases List.mem_cons.1 hx with rfl | hx
    · decide
    · rw [(List.mem_replicate.1 hx).2]; decide
  rw [if_pos (err_good h1 (by simp) (by simp; omega)), decV_tens]
set_option maxRecDepth 100000 in
theorem power_s {w : World} {n : Nat} (hn : n ≤ 199) : Calls Tryd.prog 14 #[.int .i64 (n : Int)] w fun e w' => ∃ v, e = .returned v ∧ Rs w w' v (10 ^ n) := by
  have hr := fun W => Tryd.strings_Repeat ⟨#[48]⟩ n W (by omega) (by show 1 * n ≤ _; omega)
  obtain ⟨T, hT⟩ : ∃ T : ByteArray, (⟨(Lib.repeatL (ByteArray.mk #[48]).data.toList n).toArray⟩ : ByteArray) = T := ⟨_, rfl⟩
  have hl : T.data.toList = List.replicate n 48 := by rw [← hT]; show (Lib.repeatL [48] n).toArray.toList = _; rw [List.toList_toArray, repeat_rep]
  have hs : T.size = n := by rw [Lib.size_eq, hl, List.length_replicate]
  have hs2 : (ByteArray.mk #[49] ++ T).size = n + 1 := by rw [app_size, hs]; show 1 + n = n + 1; omega
  have hv := fun W => value_s (w := W) (ByteArray.mk #[49] ++ T) (by omega)
  have hd : valT (ByteArray.mk #[49] ++ T).data.toList = 10 ^ n := by rw [Go.Joins.data_append, hl]; exact tens_val hn
  simp only [hd] at hv
  simp only [hT] at hr
  have hsz : T.size ≤ 199 := by omega
  obtain ⟨m, hm⟩ : ∃ m, 10 ^ n = m := ⟨_, rfl⟩
  rw [hm] at hv ⊢
  have HR := Lib.hid (And.intro hr hv)
  clear hr hT hl hs hs2 hv hd hm hn
  go_enter Tryd.func14, Tryd.ntmps14
  go_wp2_with fail
  refine (HR.out.1 _).mono ?_; rintro e w1 ⟨rfl, hb⟩
  have HB := Lib.hid hb
  clear hb
  go_wp2_with fail
  refine (HR.out.2 _).mono ?_; rintro e w2 ⟨v, rfl, h⟩
  have HC := Lib.hid (h.out HB.out)
  clear h
  go_wp2_with fail
  go_ret
  exact ⟨_, rfl, HC.out⟩
end
end Go.Proofs.YtclaiidoomdklaaDoor
