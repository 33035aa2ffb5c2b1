/-
  The document's numbers: place, Trim, Small, Cmp, Add, Sub.
-/
import Derived.Test.YtclaiidoomdklaaDoorI0
import Derived.Deep.RegionHeld3
namespace Go.Proofs.YtclaiidoomdklaaDoor
namespace I
open Go Go.RowKit Go.Proofs Pl
set_option linter.unusedVariables false


theorem ow_snoc {w : World} {B : Nat} {v : Value} {ys : List Nat} {x n : Nat} (hy : All TB ys) (hx : x < TB) (hn : n = ys.length) (h : w.ownsRow B 3 1 v (n + 1) (wis ys ++ [.int .i64 (x : Int)])) : Ow w B v (ys ++ [x]) := by
  subst hn
  refine ⟨hy.append (All.cons hx All.nil), ?_⟩
  rw [List.length_append, List.length_singleton, ← wis_app]
  exact h
/-- What an append of one place leaves. -/
theorem grown_own {B b0 : Nat} {w wr w5 : World} {v v5 : Value} {ys : List Nat} {x n : Nat} {o : Obj} (hO : Ow wr B v ys) (hb : Below B w wr) (hB : B ≤ wr.heap.size) (hx : x < TB) (hn : n = ys.length) (h : w5.ownsRow B 3 1 v5 (n + 1) (wis ys ++ [.int .i64 (x : Int)])) (hg : (wr.alloc o).grownBy w5 v.ownBlock) :
    Ow w5 B v5 (ys ++ [x]) ∧ Below B w w5 := by
  refine ⟨ow_snoc hO.1 hx hn h, ?_⟩
  have h2 : Below B w (wr.alloc o) := hb.alloc hB _
  exact h2.grown hg (Nat.le_trans hB (by simp)) (fun j hj => own_ge hO.2 j hj)

theorem canon_snoc {ys : List Nat} {x : Nat} (hx : x ≠ 0) : Canon (ys ++ [x]) := by
  unfold Canon
  rw [strip_snoc, if_neg hx]
theorem pow5 : 9223372036854775808 ≤ TB ^ 5 := by rw [TB_eq]; decide
theorem short {n m l v : Nat} (hn : n < 9223372036854775808) (hm : 0 < m) (h : v + TB ^ l * m = n) : l ≤ 4 := by
  rcases Nat.lt_or_ge l 5 with hlt | hge
  · omega
  · have h1 : TB ^ 5 ≤ TB ^ l := Nat.pow_le_pow_right TB_pos hge
    have h2 : TB ^ l * 1 ≤ TB ^ l * m := Nat.mul_le_mul_left _ hm
    have := pow5
    omega
def SmallRel (n B : Nat) (w wr : World) (m : Nat) (v : Value) : Prop :=
  ∃ ys : List Nat, Ow wr B v ys ∧ Below B w wr ∧ B ≤ wr.heap.size ∧ val TB ys + TB ^ ys.length * m = n ∧ (m = 0 → Canon ys)


theorem take_snoc {xs : List Nat} {k : Nat} (h : k < xs.length) : xs.take (k + 1) = xs.take k ++ [atD xs k] := by
  rw [List.take_succ_eq_append_getElem h, atD_get h]
end I
end Go.Proofs.YtclaiidoomdklaaDoor
