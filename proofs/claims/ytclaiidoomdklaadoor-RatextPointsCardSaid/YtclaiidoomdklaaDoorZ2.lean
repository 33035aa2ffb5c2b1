/-
  zint: Cmp, Add, Sub, Mul.
-/
import Derived.Test.YtclaiidoomdklaaDoorZ1
import Derived.Deep.RegionHeld3
namespace Go.Proofs.YtclaiidoomdklaaDoor
open Go Go.RowKit Go.Proofs Pl
set_option linter.unusedVariables false

theorem pow_sum {B m n p q : Nat} (hB : 1 < B) (hm : m < B ^ p) (hn : n < B ^ q) : m + n < B ^ (p + q + 1) := by
  have h1 : B ^ p ≤ B ^ (p + q) := Nat.pow_le_pow_right (by omega) (by omega)
  have h2 : B ^ q ≤ B ^ (p + q) := Nat.pow_le_pow_right (by omega) (by omega)
  have h3 : B ^ (p + q) * 2 ≤ B ^ (p + q) * B := Nat.mul_le_mul_left _ hB
  rw [Nat.pow_succ]
  omega
theorem pow_mul {B m n p q : Nat} (hm : m < B ^ p) (hn : n < B ^ q) : m * n < B ^ (p + q) := by
  rw [Nat.pow_add]; exact Nat.mul_lt_mul'' hm hn
/-- A Make of what is new. -/
theorem make_rs (p : Bool) {L : Nat} (hL : L ≤ 274877906944) {n : Nat} (hn : n < WB ^ L) {w w1 : World} {s : Value} (h : Rs w w1 s n) (W : World) (hb : Below w1.heap.size w1 W) :
    Calls Tryd.prog 13 #[.bool p, s] W fun e w' => ∃ v, e = .returned v ∧ Zs w w' v (sg p n) ∧ Below W.heap.size W w' :=
  (make_z p ((h.nm hn).keep hb) hL).mono fun e w' ⟨v, he, hz⟩ => ⟨v, he, hz.from (below_trans h.2 hb), hz.below⟩
theorem abs_add {x y : Int} {B p q : Nat} (hB : 1 < B) (hx : x.natAbs < B ^ p) (hy : y.natAbs < B ^ q) : (x + y).natAbs < B ^ (p + q + 1) :=
  Nat.lt_of_le_of_lt (Int.natAbs_add_le x y) (pow_sum hB hx hy)
theorem abs_sub {x y : Int} {B p q : Nat} (hB : 1 < B) (hx : x.natAbs < B ^ p) (hy : y.natAbs < B ^ q) : (x - y).natAbs < B ^ (p + q + 1) := by
  rw [Int.sub_eq_add_neg]; exact abs_add hB hx (by rw [Int.natAbs_neg]; exact hy)
theorem abs_mul {x y : Int} {B p q : Nat} (hx : x.natAbs < B ^ p) (hy : y.natAbs < B ^ q) : (x * y).natAbs < B ^ (p + q) := by
  rw [Int.natAbs_mul]; exact pow_mul hx hy
end Go.Proofs.YtclaiidoomdklaaDoor
