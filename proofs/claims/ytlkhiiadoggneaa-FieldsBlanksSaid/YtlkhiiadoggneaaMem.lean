/-
  Small facts on worlds: blocks of one element type are kept where only others are written.
-/
import Derived.WalkKit
import Derived.Lib.Hide
import Derived.Deep.Draws
import Derived.IntWalk
namespace Go.Proofs.Ytlkhiiadoggneaa
open Go Go.RowKit Go.Lib

/-- All blocks of element type t stay as they are. -/
def KeepT (t : TypeId) (w w' : World) : Prop := ∀ (k : Nat) (cs : Array Value) (m : Nat × Nat), w.heap[k]? = some (Obj.cells cs t m) → w'.heap[k]? = w.heap[k]?

section
variable {t : TypeId} {w w' w'' : World} {B size n : Nat} {v : Value} {xs : List Value}

theorem heap_lt {k : Nat} {o : Obj} (h : w.heap[k]? = some o) : k < w.heap.size := by
  rcases Nat.lt_or_ge k w.heap.size with hlt | hge
  · exact hlt
  · rw [Array.getElem?_eq_none hge] at h; cases h
theorem KeepT.refl (t : TypeId) (w : World) : KeepT t w w := fun _ _ _ _ => rfl
theorem KeepT.trans (h : KeepT t w w') (k : KeepT t w' w'') : KeepT t w w'' := fun i cs m hi => by
  have h1 := h i cs m hi
  rw [← h1]
  exact k i cs m (h1.trans hi)
theorem KeepT.below (h : Below w.heap.size w w') : KeepT t w w' := fun k _ _ hk => h.block k (heap_lt hk)
theorem KeepT.grown {row : Option Nat} (hg : w.grownBy w' row) (hr : ∀ g, row = some g → ∃ cs e m, w.heap[g]? = some (.cells cs e m) ∧ e ≠ t) : KeepT t w w' := fun k cs m hk => by
  refine hg.block k (heap_lt hk) (fun e => ?_)
  obtain ⟨cs', e', m', h1, h2⟩ := hr k e.symm
  rw [hk] at h1
  injection h1 with h1
  injection h1 with _ h3 _
  exact h2 h3.symm
theorem KeepT.alloc (w : World) (o : Obj) : KeepT t w (w.alloc o) := fun k _ _ hk => Below.heap_alloc w o k (heap_lt hk)
theorem KeepT.drewN (w : World) (q : Nat) : KeepT t w (w.drewN q) := fun _ _ _ _ => rfl
theorem KeepT.drew (w : World) : KeepT t w w.drew := fun _ _ _ _ => rfl
theorem KeepT.setCell {g : Nat} {cs : Array Value} {e : TypeId} {m : Nat × Nat} (hg : w.heap[g]? = some (.cells cs e m)) (hne : e ≠ t) {p : Addr} (hp : p.block = g) (u : Value) : KeepT t w (w.setCell p u) := fun k cs' m' hk => by
  refine Below.heap_setCell w p u k (fun e' => ?_)
  subst e'
  rw [hp, hg] at hk
  injection hk with hk
  injection hk with _ h3 _
  exact hne h3

/-- A row of elements of type t is kept. -/
theorem own_keepT (h : w.ownsRow B t size v n xs) (hk : KeepT t w w') : w'.ownsRow B t size v n xs := by
  obtain ⟨h1, h2⟩ := h
  refine ⟨h1, ?_⟩
  rcases h2 with h2 | ⟨g, cap, cur, hv, hg, hh, r⟩
  · exact Or.inl h2
  · exact Or.inr ⟨g, cap, cur, hv, hg, (hk g _ _ hh).trans hh, r⟩
theorem own_mono {B' : Nat} (h : w.ownsRow B t size v n xs) (hB : B' ≤ B) : w.ownsRow B' t size v n xs := by
  obtain ⟨h1, h2⟩ := h
  refine ⟨h1, ?_⟩
  rcases h2 with h2 | ⟨g, cap, cur, hv, hg, r⟩
  · exact Or.inl h2
  · exact Or.inr ⟨g, cap, cur, hv, Nat.le_trans hB hg, r⟩
/-- The block of such a row bears that element type. -/
theorem own_type (h : w.ownsRow B t size v n xs) : ∀ g, v.ownBlock = some g → ∃ cs e m, w.heap[g]? = some (.cells cs e m) ∧ e = t := by
  intro g hg
  rcases h.2 with ⟨rfl, _⟩ | ⟨g', cap, cur, rfl, _, hh, _⟩
  · simp [Value.ownBlock] at hg
  · have : g' = g := by simpa [Value.ownBlock] using hg
    subst this
    exact ⟨cur, t, (0, 0), hh, rfl⟩
theorem own_ge (h : w.ownsRow B t size v n xs) : ∀ g, v.ownBlock = some g → B ≤ g := fun g hg => (h.lt g hg).1
theorem own_keepT_of {t' : TypeId} (h : w.ownsRow B t' size v n xs) (hg : w.grownBy w' v.ownBlock) (hne : t' ≠ t) : KeepT t w w' :=
  .grown hg fun g e => by
    obtain ⟨cs, e, m, h1, h2⟩ := own_type h g e
    exact ⟨cs, e, m, h1, by rw [h2]; exact hne⟩
end

theorem size_zero_iff (s : ByteArray) : s.size = 0 ↔ s = ByteArray.empty := by
  constructor
  · intro h
    apply ByteArray.ext
    exact Array.size_eq_zero_iff.1 h
  · rintro rfl; rfl
theorem isEmpty_true {s : ByteArray} (h : s.size = 0) : s.toList.isEmpty = true := by
  rw [← decide_eq_emptyBytes (inst := inferInstance)]
  simp [(size_zero_iff s).1 h]
theorem isEmpty_false {s : ByteArray} (h : s.size ≠ 0) : s.toList.isEmpty = false := by
  rw [← decide_eq_emptyBytes (inst := inferInstance)]
  simp only [decide_eq_false_iff_not]
  intro e; exact h ((size_zero_iff s).2 e)
/-- The cells of a new block. -/
theorem cells_new (w : World) (cs : Array Value) (e : TypeId) : ∀ j u, cs.toList[j]? = some u → (w.alloc (.cells cs e)).cell? ((⟨w.heap.size, 0, none⟩ : Addr).add j) = some u := by
  intro j u hj
  have : (⟨w.heap.size, 0, none⟩ : Addr).add j = ⟨w.heap.size, j, none⟩ := by unfold Addr.add; split <;> simp_all
  rw [this, World.cell?_alloc_new]
  simpa using hj
theorem cell_lt {w : World} {b o : Nat} {sp : Option Nat} {v : Value} (h : w.cell? ⟨b, o, sp⟩ = some v) : b < w.heap.size := by
  rcases Nat.lt_or_ge b w.heap.size with hlt | hge
  · exact hlt
  · simp [World.cell?, Array.getElem?_eq_none hge] at h
theorem byte_lt (b : UInt8) : b.toNat < 256 := by have := b.toBitVec.isLt; simpa using this
theorem wrap32_byte (b : UInt8) : wrap32 (b.toNat : Int) = (b.toNat : Int) := IntWalk.wrap32_in _ (by have := byte_lt b; omega)
end Go.Proofs.Ytlkhiiadoggneaa
