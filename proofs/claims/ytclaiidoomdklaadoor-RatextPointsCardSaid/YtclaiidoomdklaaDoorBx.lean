/-
  Blocks of two cells (a struct's variable): what they hold, what stays, what a store makes of them.
-/
import Derived.Test.YtclaiidoomdklaaDoorA1
import Derived.Handy
import Derived.RangeFuncBox
namespace Go.Proofs.YtclaiidoomdklaaDoor
open Go Go.RowKit Go.Proofs Pl
set_option linter.unusedVariables false

/-- Block g is the variable of a struct of two cells. -/
def Bx (t : TypeId) (w : World) (g : Nat) (a b : Value) : Prop := w.heap[g]? = some (.cells #[a, b] t (0, 0))
section
variable {t : TypeId} {w w' : World} {g : Nat} {a b x y : Value}
theorem Bx.lt (h : Bx t w g a b) : g < w.heap.size := heap_lt h
theorem Bx.facts (h : Bx t w g a b) : w.cell? ⟨g, 0, none⟩ = some a ∧ w.cell? ⟨g, 1, none⟩ = some b ∧ w.frozen? ⟨g, 0, none⟩ = false ∧ w.frozen? ⟨g, 1, none⟩ = false := by
  have h' : w.heap[g]? = _ := h
  refine ⟨?_, ?_, ?_, ?_⟩ <;> simp [World.cell?, World.frozen?, h']
theorem Bx.new (t : TypeId) (w : World) (a b : Value) : Bx t (w.alloc (.cells #[a, b] t)) w.heap.size a b := World.alloc_heap_new w _
theorem Bx.new1 (t : TypeId) (w : World) (o : Obj) (a b : Value) : Bx t ((w.alloc o).alloc (.cells #[a, b] t)) (w.heap.size + 1) a b := by
  have := Bx.new t (w.alloc o) a b
  rwa [World.size_alloc] at this
theorem Bx.new2 (t : TypeId) (w : World) (o o' : Obj) (a b : Value) : Bx t (((w.alloc o).alloc o').alloc (.cells #[a, b] t)) (w.heap.size + 1 + 1) a b := by
  have := Bx.new t ((w.alloc o).alloc o') a b
  rwa [World.size_alloc, World.size_alloc] at this
theorem Bx.new3 (t : TypeId) (w : World) (o o' o'' : Obj) (a b : Value) : Bx t ((((w.alloc o).alloc o').alloc o'').alloc (.cells #[a, b] t)) (w.heap.size + 1 + 1 + 1) a b := by
  have := Bx.new t (((w.alloc o).alloc o').alloc o'') a b
  rwa [World.size_alloc, World.size_alloc, World.size_alloc] at this
theorem Bx.keep (h : Bx t w g a b) (hb : Below w.heap.size w w') : Bx t w' g a b := (hb.block g h.lt).trans h
theorem Bx.alloc (h : Bx t w g a b) (o : Obj) : Bx t (w.alloc o) g a b := (Below.heap_alloc w o g h.lt).trans h
theorem Bx.drewN (h : Bx t w g a b) (q : Nat) : Bx t (w.drewN q) g a b := h
theorem Bx.set0 (h : Bx t w g a b) (x : Value) : Bx t (w.setCell ⟨g, 0, none⟩ x) g x b := by
  obtain ⟨hlt, hk⟩ := Array.getElem?_eq_some_iff.1 h
  show (w.heap.modify g _)[g]? = _
  rw [Array.getElem?_eq_getElem (by rw [Array.size_modify]; exact hlt), Array.getElem_modify_self, hk]
  rfl
theorem Bx.set1 (h : Bx t w g a b) (y : Value) : Bx t (w.setCell ⟨g, 1, none⟩ y) g a y := by
  obtain ⟨hlt, hk⟩ := Array.getElem?_eq_some_iff.1 h
  show (w.heap.modify g _)[g]? = _
  rw [Array.getElem?_eq_getElem (by rw [Array.size_modify]; exact hlt), Array.getElem_modify_self, hk]
  rfl
theorem Bx.set (h : Bx t w g a b) (x y : Value) : Bx t ((w.setCell ⟨g, 0, none⟩ x).setCell ⟨g, 1, none⟩ y) g x y := (h.set0 x).set1 y
theorem Bx.other (h : Bx t w g a b) {p : Addr} (hp : p.block ≠ g) (u : Value) : Bx t (w.setCell p u) g a b := (Below.heap_setCell w p u g (fun e => hp e.symm)).trans h
theorem Bx.other2 (h : Bx t w g a b) {k : Nat} (hp : k ≠ g) (u v : Value) : Bx t ((w.setCell ⟨k, 0, none⟩ u).setCell ⟨k, 1, none⟩ v) g a b := (h.other hp u).other hp v
/-- What a store into a struct's variable leaves: rows of another type, what lay below. -/
theorem Bx.keepT (h : Bx t w g a b) {e : TypeId} (hne : t ≠ e) (x y : Value) : KeepT e w ((w.setCell ⟨g, 0, none⟩ x).setCell ⟨g, 1, none⟩ y) :=
  (KeepT.setCell h hne rfl x).trans (KeepT.setCell (h.set0 x) hne rfl y)
theorem Bx.size (h : Bx t w g a b) (x y : Value) : ((w.setCell ⟨g, 0, none⟩ x).setCell ⟨g, 1, none⟩ y).heap.size = w.heap.size := by simp
theorem Bx.below (h : Bx t w' g a b) {B : Nat} (hb : Below B w w') (hg : B ≤ g) (hs : B ≤ w.heap.size) (x y : Value) : Below B w ((w'.setCell ⟨g, 0, none⟩ x).setCell ⟨g, 1, none⟩ y) :=
  (hb.setCell hg x).setCell hg y
/-- Three new variables. -/
def New3 (t t' t'' : TypeId) (w W : World) (a b c d e f : Value) : Prop := Bx t W w.heap.size a b ∧ Bx t' W (w.heap.size + 1) c d ∧ Bx t'' W (w.heap.size + 1 + 1) e f ∧ Below w.heap.size w W
theorem new3 (t t' t'' : TypeId) (w : World) (a b c d e f : Value) : New3 t t' t'' w (((w.alloc (.cells #[a, b] t)).alloc (.cells #[c, d] t')).alloc (.cells #[e, f] t'')) a b c d e f :=
  ⟨((Bx.new t w a b).alloc _).alloc _, (Bx.new1 t' w _ c d).alloc _, Bx.new2 t'' w _ _ e f, by go_grown⟩
/-- Two new variables. -/
def New2 (t t' : TypeId) (w W : World) (a b c d : Value) : Prop := Bx t W w.heap.size a b ∧ Bx t' W (w.heap.size + 1) c d ∧ Below w.heap.size w W
theorem new2 (t t' : TypeId) (w : World) (a b c d : Value) : New2 t t' w ((w.alloc (.cells #[a, b] t)).alloc (.cells #[c, d] t')) a b c d :=
  ⟨(Bx.new t w a b).alloc _, Bx.new1 t' w _ c d, by go_grown⟩
theorem New3.keep {t t' t'' : TypeId} {w W W' : World} {a b c d e f : Value} (h : New3 t t' t'' w W a b c d e f) (hb : Below W.heap.size W W') : New3 t t' t'' w W' a b c d e f :=
  ⟨h.1.keep hb, h.2.1.keep hb, h.2.2.1.keep hb, below_trans h.2.2.2 hb⟩
theorem New2.keep {t t' : TypeId} {w W W' : World} {a b c d : Value} (h : New2 t t' w W a b c d) (hb : Below W.heap.size W W') : New2 t t' w W' a b c d :=
  ⟨h.1.keep hb, h.2.1.keep hb, below_trans h.2.2 hb⟩
theorem New3.drew {t t' t'' : TypeId} {w W : World} {a b c d e f : Value} (h : New3 t t' t'' w W a b c d e f) (q : Nat) : New3 t t' t'' w (W.drewN q) a b c d e f := h.keep ⟨rfl, rfl, rfl, Nat.le_refl _, fun _ _ => rfl⟩
theorem New2.drew {t t' : TypeId} {w W : World} {a b c d : Value} (h : New2 t t' w W a b c d) (q : Nat) : New2 t t' w (W.drewN q) a b c d := h.keep ⟨rfl, rfl, rfl, Nat.le_refl _, fun _ _ => rfl⟩
/-- What a walk loads and stores there. -/
def Cs3 (w W : World) (a b c d e f : Value) : Prop :=
  W.cell? ⟨w.heap.size, 0, none⟩ = some a ∧ W.cell? ⟨w.heap.size, 1, none⟩ = some b ∧ W.cell? ⟨w.heap.size + 1, 0, none⟩ = some c ∧ W.cell? ⟨w.heap.size + 1, 1, none⟩ = some d ∧
  W.cell? ⟨w.heap.size + 1 + 1, 0, none⟩ = some e ∧ W.cell? ⟨w.heap.size + 1 + 1, 1, none⟩ = some f ∧ W.frozen? ⟨w.heap.size + 1 + 1, 0, none⟩ = false ∧ W.frozen? ⟨w.heap.size + 1 + 1, 1, none⟩ = false
def Cs2 (w W : World) (a b c d : Value) : Prop :=
  W.cell? ⟨w.heap.size, 0, none⟩ = some a ∧ W.cell? ⟨w.heap.size, 1, none⟩ = some b ∧ W.cell? ⟨w.heap.size + 1, 0, none⟩ = some c ∧ W.cell? ⟨w.heap.size + 1, 1, none⟩ = some d ∧
  W.frozen? ⟨w.heap.size + 1, 0, none⟩ = false ∧ W.frozen? ⟨w.heap.size + 1, 1, none⟩ = false
theorem New3.cs {t t' t'' : TypeId} {w W : World} {a b c d e f : Value} (h : New3 t t' t'' w W a b c d e f) : Cs3 w W a b c d e f :=
  ⟨h.1.facts.1, h.1.facts.2.1, h.2.1.facts.1, h.2.1.facts.2.1, h.2.2.1.facts.1, h.2.2.1.facts.2.1, h.2.2.1.facts.2.2.1, h.2.2.1.facts.2.2.2⟩
theorem New2.cs {t t' : TypeId} {w W : World} {a b c d : Value} (h : New2 t t' w W a b c d) : Cs2 w W a b c d :=
  ⟨h.1.facts.1, h.1.facts.2.1, h.2.1.facts.1, h.2.1.facts.2.1, h.2.1.facts.2.2.1, h.2.1.facts.2.2.2⟩
theorem New3.st {t t' t'' : TypeId} {w W : World} {a b c d e f : Value} (h : New3 t t' t'' w W a b c d e f) (x y : Value) :
    New3 t t' t'' w ((W.setCell ⟨w.heap.size + 1 + 1, 0, none⟩ x).setCell ⟨w.heap.size + 1 + 1, 1, none⟩ y) a b c d x y :=
  ⟨h.1.other2 (by omega) x y, h.2.1.other2 (by omega) x y, h.2.2.1.set x y, h.2.2.1.below h.2.2.2 (by omega) (Nat.le_refl _) x y⟩
theorem New2.st {t t' : TypeId} {w W : World} {a b c d : Value} (h : New2 t t' w W a b c d) (x y : Value) :
    New2 t t' w ((W.setCell ⟨w.heap.size + 1, 0, none⟩ x).setCell ⟨w.heap.size + 1, 1, none⟩ y) a b x y :=
  ⟨h.1.other2 (by omega) x y, h.2.1.set x y, h.2.1.below h.2.2 (by omega) (Nat.le_refl _) x y⟩
theorem New3.ld {t t' t'' : TypeId} {w W : World} {a b c d e f : Value} (h : New3 t t' t'' w W a b c d e f) :
    W.cell? ⟨w.heap.size, 0, none⟩ = some a ∧ W.cell? ⟨w.heap.size, 1, none⟩ = some b ∧ W.cell? ⟨w.heap.size + 1, 0, none⟩ = some c ∧ W.cell? ⟨w.heap.size + 1, 1, none⟩ = some d :=
  ⟨h.1.facts.1, h.1.facts.2.1, h.2.1.facts.1, h.2.1.facts.2.1⟩
theorem New2.ld2 {t t' : TypeId} {w W : World} {a b c d : Value} (h : New2 t t' w W a b c d) :
    W.cell? ⟨w.heap.size, 0, none⟩ = some a ∧ W.cell? ⟨w.heap.size, 1, none⟩ = some b ∧ W.cell? ⟨w.heap.size + 1, 0, none⟩ = some c ∧ W.cell? ⟨w.heap.size + 1, 1, none⟩ = some d :=
  ⟨h.1.facts.1, h.1.facts.2.1, h.2.1.facts.1, h.2.1.facts.2.1⟩
theorem New2.ld {t t' : TypeId} {w W : World} {a b c d : Value} (h : New2 t t' w W a b c d) :
    W.cell? ⟨w.heap.size, 0, none⟩ = some a ∧ W.cell? ⟨w.heap.size, 1, none⟩ = some b := ⟨h.1.facts.1, h.1.facts.2.1⟩
/-- A return whose result lies in a struct's variable, just written. -/
theorem ret_bx {P : Program} {fn : Func} {R : Ending → World → Prop} {act : Act} (X : Bx t w g a b)
    (hr : ∀ W : World, W.cell? ⟨g, 0, none⟩ = some x → W.cell? ⟨g, 1, none⟩ = some y → (results fn act.tmps).run P W = .ok (.agg #[x, y]) W) (hd : act.defers = [])
    (hR : R (.returned (.agg #[x, y])) ((w.setCell ⟨g, 0, none⟩ x).setCell ⟨g, 1, none⟩ y)) : bodyPost P fn R .ret act ((w.setCell ⟨g, 0, none⟩ x).setCell ⟨g, 1, none⟩ y) :=
  bodyPost_ret (hr _ (X.set x y).facts.1 (X.set x y).facts.2.1) hd hR
end
end Go.Proofs.YtclaiidoomdklaaDoor
