/-
  The document's numbers: the decimal digits of a number.
-/
import Derived.Test.YtclaiidoomdklaaDoorI14
import Derived.Test.YtclaiidoomdklaaDoorP7
namespace Go.Proofs.YtclaiidoomdklaaDoor
open Go Go.RowKit Go.Proofs Pl
set_option linter.unusedVariables false

namespace Pl
theorem padded_front : ∀ (j v d : Nat), v < 10 ^ j → d < 10 → padded (j + 1) (v + 10 ^ j * d) = UInt8.ofNat (48 + d) :: padded j v
  | 0, v, d, hv, hd => by
    obtain rfl : v = 0 := by simpa using hv
    simp [padded, Nat.mod_eq_of_lt hd]
  | j + 1, v, d, hv, hd => by
    rw [Nat.pow_succ] at hv
    have e : v + 10 ^ (j + 1) * d = 10 * (v / 10 + 10 ^ j * d) + v % 10 := by
      rw [Nat.pow_succ, Nat.mul_add, ← Nat.mul_assoc 10, Nat.mul_comm 10 (10 ^ j)]
      have := Nat.div_add_mod v 10
      omega
    rw [padded, show (v + 10 ^ (j + 1) * d) / 10 = v / 10 + 10 ^ j * d by omega, show (v + 10 ^ (j + 1) * d) % 10 = v % 10 by omega, padded_front j (v / 10) d (by omega) hd, padded]
    rfl
end Pl
namespace I
/-- These bytes lie in block g, from o on. -/
def R8 (w : World) (g o : Nat) (l : List UInt8) : Prop := ∀ (j : Nat) (hj : j < l.length), w.cell? ⟨g, o + j, none⟩ = some (.int .u8 (l[j].toNat : Int))
theorem R8.keep {w w' : World} {g o : Nat} {l : List UInt8} (h : R8 w g o l) (hb : Below w.heap.size w w') : R8 w' g o l := fun j hj =>
  (hb.cell (p := ⟨g, o + j, none⟩) (cell_lt (h j hj))).trans (h j hj)
theorem R8.drop {w : World} {g o : Nat} {a : UInt8} {l : List UInt8} (h : R8 w g o (a :: l)) : R8 w g (o + 1) l := fun j hj => by
  have h1 := h (j + 1) (by simp; omega)
  rw [show o + 1 + j = o + (j + 1) by omega]
  exact h1
theorem byte8_info : (Tryd.prog.info? 5).map (fun i => (i.zero, i.size, i.bytes)) = some (some (.int .u8 0), 1, 1) := by kernel_rfl
def b8 (l : List UInt8) : List Value := l.map fun (b : UInt8) => Value.int .u8 (b.toNat : Int)
/-- append([]byte{y}, v...). -/
theorem app_byte {w0 wr : World} {B : Nat} {ops : Array Oper} {rest : List Oper} {o : Oper} {a : Act} {Q : Exit → Act → World → Prop} {g n c z : Nat} {l : List UInt8} {y : UInt8} (hgd : o.guard = none) (s x : Operand)
    (ho : o.op = .call { callee := .builtin .append, args := #[s, x], argTypes := #[31, 31] }) (hs : a.eval s = .slice (some ⟨wr.heap.size, 0, none⟩) 1 1) (hx : a.eval x = .slice (some ⟨g, 0, none⟩) n c)
    (hn : n = l.length) (hz : z = y.toNat) (hR : R8 wr g 0 l) (hb : Below B w0 wr) (hB : B ≤ wr.heap.size) (hl : l.length ≤ 100000)
    (h : ∀ g' c' w', R8 w' g' 0 (y :: l) → Below B w0 w' → n + 1 ≤ c' → c' ≤ maxLen → wpList Tryd.prog ops Q rest (a.put o.dst (.slice (some ⟨g', 0, none⟩) (n + 1) c')) w') : wpList Tryd.prog ops Q (o :: rest) a (wr.alloc (.cells #[.int .u8 (z : Int)] 5)) := by
  subst hn
  subst hz
  obtain ⟨i0, hi, hz0, hz1, hz2⟩ := info_parts byte8_info
  have hown : (wr.alloc (.cells #[.int .u8 (y.toNat : Int)] 5)).ownsRow wr.heap.size 5 1 (.slice (some ⟨wr.heap.size, 0, none⟩) 1 1) 1 [.int .u8 (y.toNat : Int)] :=
    ⟨rfl, .inr ⟨wr.heap.size, 1, #[.int .u8 (y.toNat : Int)], rfl, Nat.le_refl _, heap_alloc_new _ _, Nat.le_refl _, by decide, rfl, rfl⟩⟩
  refine wpList_append_own _ hgd s x 31 ho wr.heap.size 5 i0 (.int .u8 0) 1 1 Tryd.underlying31 hi hz0 hz1 hz2 rfl (by decide) _ 1 [.int .u8 (y.toNat : Int)] hs hown ⟨g, 0, none⟩ l.length c (b8 l) hx (by simp [b8]) ?_
    (fun u hu => by obtain ⟨b, _, rfl⟩ := List.mem_map.1 hu; rfl) (by unfold maxLen; omega) (by omega) (by simp) ?_
  · intro j u hj
    have hlt : j < l.length := by
      have := (List.getElem?_eq_some_iff.1 hj).1
      simpa [b8] using this
    have e : (⟨g, 0, none⟩ : Addr).add j = ⟨g, 0 + j, none⟩ := by unfold Addr.add; split <;> simp_all
    rw [e, (hR.keep (below_al _ _)) j hlt]
    simp [b8, List.getElem?_eq_getElem hlt] at hj
    rw [← hj]
  intro v' w' hown' hg _
  obtain ⟨g', c', rfl, h1, h2, h3, h4, h5, h6⟩ := own_cells hown' (by omega)
  rw [Nat.add_comm 1] at h2
  rw [Nat.add_comm 1]
  refine h g' c' w' ?_ ?_ h2 h3
  · intro j hj
    have := h5 j (.int .u8 ((y :: l)[j].toNat : Int)) (by
      have : (b8 (y :: l))[j]? = some (.int .u8 ((y :: l)[j].toNat : Int)) := by
        unfold b8
        rw [List.getElem?_map, List.getElem?_eq_getElem hj]
        rfl
      exact this)
    rw [Nat.zero_add]
    exact this
  · have h2 : Below B w0 (wr.alloc (.cells #[.int .u8 (y.toNat : Int)] 5)) := hb.alloc hB _
    refine h2.grown hg (Nat.le_trans hB (below_al _ _).size) (fun j hj => ?_)
    simp [Value.ownBlock] at hj
    omega
end I
end Go.Proofs.YtclaiidoomdklaaDoor
