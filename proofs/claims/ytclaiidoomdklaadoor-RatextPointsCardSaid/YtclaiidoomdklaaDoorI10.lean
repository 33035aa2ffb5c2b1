/-
  The document's numbers: a number's words.
-/
import Derived.Test.YtclaiidoomdklaaDoorI9
namespace Go.Proofs.YtclaiidoomdklaaDoor
open Go Go.RowKit Go.Proofs Pl
set_option linter.unusedVariables false

/-- append(v, y), one word. -/
theorem app_word {w0 wr : World} {B : Nat} {ops : Array Oper} {rest : List Oper} {o : Oper} {a : Act} {Q : Exit → Act → World → Prop} {v : Value} {ys : List Nat} {y : Nat} (hgd : o.guard = none) (s x : Operand)
    (ho : o.op = .call { callee := .builtin .append, args := #[s, x], argTypes := #[23, 23] }) (hs : a.eval s = v) (hx : a.eval x = .slice (some ⟨wr.heap.size, 0, none⟩) 1 1)
    (hO : Ow wr B v ys) (hb : Below B w0 wr) (hB : B ≤ wr.heap.size) (hy : y < WB) (hl : ys.length ≤ 1099511627776)
    (h : ∀ v' w', Ow w' B v' (ys ++ [y]) → Below B w0 w' → wr.grownBy w' v.ownBlock → wpList Tryd.prog ops Q rest (a.put o.dst v') w') : wpList Tryd.prog ops Q (o :: rest) a (wr.alloc (.cells #[.int .u64 (y : Int)] 42)) := by
  obtain ⟨i0, hi, hz0, hz1, hz2⟩ := info_parts word_info
  refine wpList_append_own _ hgd s x 23 ho B 42 i0 (.int .u64 0) 1 8 Tryd.underlying23 hi hz0 hz1 hz2 rfl (by decide) v ys.length (wis ys) hs (hO.2.alloc _) ⟨wr.heap.size, 0, none⟩ 1 1 [.int .u64 (y : Int)] hx rfl (cell_one_new _ _ _)
    (fun u hu => by rw [List.mem_singleton] at hu; subst hu; rfl) (by unfold maxLen; omega) (by omega) (Nat.le_trans hB (below_al _ _).size) ?_
  intro v' w' hown hg _
  have h2 : Below B w0 (wr.alloc (.cells #[.int .u64 (y : Int)] 42)) := hb.alloc hB _
  refine h v' w' (ow_snoc hO.1 hy rfl hown) (h2.grown hg (Nat.le_trans hB (below_al _ _).size) (fun j hj => own_ge hO.2 j hj)) ?_
  exact ⟨hg.os, hg.tape, hg.output, Nat.le_trans (below_al _ _).size hg.size, fun k hk hne => (hg.block k (Nat.lt_of_lt_of_le hk (below_al _ _).size) hne).trans (Below.heap_alloc wr _ k hk)⟩
/-- Places of the document's numbers, behind a write to words. -/
theorem I.Ow.other {w w' : World} {B B' : Nat} {v u : Value} {xs ys : List Nat} (h : I.Ow w B v xs) (ho : _root_.Go.Proofs.YtclaiidoomdklaaDoor.Ow w B' u ys) (hg : w.grownBy w' u.ownBlock) : I.Ow w' B v xs :=
  ⟨h.1, own_keepT h.2 (own_keepT_of ho.2 hg (by decide))⟩

theorem to_nums {hi lo : Nat} (h1 : hi < I.HB) (h2 : lo < I.HB) : ∃ hh wd : Nat, wd = hi * I.HB + lo ∧ wd < WB ∧ IntKind.u64.wrap (hi : Int) = (hi : Int) ∧ IntKind.u64.wrap (lo : Int) = (lo : Int) ∧ (hi : Int) * 4294967296 = (hh : Int) ∧ IntKind.u64.wrap (hh : Int) = (hh : Int) ∧ (hh : Int) + (lo : Int) = (wd : Int) ∧ IntKind.u64.wrap (wd : Int) = (wd : Int) := by
  rw [I.HB_eq] at h1 h2 ⊢
  refine ⟨hi * 4294967296, _, rfl, by rw [WB_eq]; omega, wrap_u64 _ (by rw [WB_eq]; omega), wrap_u64 _ (by rw [WB_eq]; omega), by omega, wrap_u64 _ (by rw [WB_eq]; omega), by omega, wrap_u64 _ (by rw [WB_eq]; omega)⟩
def ToRel (n B0 : Nat) (w wr : World) (m : Nat) (xv v : Value) : Prop :=
  ∃ ys : List Nat, I.Ow wr B0 xv (dg I.TB m) ∧ Ow wr B0 v ys ∧ Below B0 w wr ∧ val WB ys + WB ^ ys.length * m = n ∧ (m = 0 → Canon ys)
theorem canon_snoc' {ys : List Nat} {x : Nat} (hx : x ≠ 0) : Canon (ys ++ [x]) := by
  unfold Canon
  rw [strip_snoc, if_neg hx]
theorem to_short {n m l v K : Nat} (hn : n < WB ^ K) (hm : 0 < m) (h : v + WB ^ l * m = n) : l < K := by
  rcases Nat.lt_or_ge l K with hlt | hge
  · exact hlt
  · have h1 : WB ^ K ≤ WB ^ l := Nat.pow_le_pow_right WB_pos hge
    have h2 : WB ^ l * 1 ≤ WB ^ l * m := Nat.mul_le_mul_left _ hm
    omega

end Go.Proofs.YtclaiidoomdklaaDoor
