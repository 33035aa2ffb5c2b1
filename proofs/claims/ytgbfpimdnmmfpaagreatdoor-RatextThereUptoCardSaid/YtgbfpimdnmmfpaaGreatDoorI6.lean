/-
  The document's numbers: DivMod.
-/
import Derived.Test.YtgbfpimdnmmfpaaGreatDoorI5
import Derived.Laws.AppendOwnNone
namespace Go.Proofs.YtgbfpimdnmmfpaaGreatDoor
namespace I
open Go Go.RowKit Go.Proofs Pl
set_option linter.unusedVariables false

theorem nl_one (w : World) (x b : Nat) (hb : b = w.heap.size) (hx : x < TB) : Ow (w.alloc (.cells #[.int .i64 (x : Int)] 3)) w.heap.size (.slice (some ⟨b, 0, none⟩) 1 1) [x] := by
  subst hb
  refine ⟨All.cons hx All.nil, by simp [wis], .inr ⟨w.heap.size, 1, #[.int .i64 (x : Int)], by simp, Nat.le_refl _, heap_alloc_new _ _, by simp, by decide, by simp, by simp [wis]⟩⟩
theorem nm_one (w : World) (x b : Nat) (hb : b = w.heap.size) (hx : x < TB) : Nm (w.alloc (.cells #[.int .i64 (x : Int)] 3)) 1 (.slice (some ⟨b, 0, none⟩) 1 1) x := ⟨_, (nl_one w x b hb hx).nl, by simp, by simp [val]⟩
/-- A row far from the block that is written. -/
theorem Ow.far {w w' : World} {B g : Nat} {v : Value} {xs : List Nat} (h : Ow w B v xs) (hg : w.grownBy w' (some g)) (hlt : g < B) : Ow w' B v xs :=
  ⟨h.1, own_grown_below h.2 hg (fun k hk => by injection hk with hk; omega)⟩
/-- append([]int{x}, ys...). -/
theorem app_front {wr : World} {ops : Array Oper} {rest : List Oper} {o : Oper} {a : Act} {Q : Exit → Act → World → Prop} {v : Value} {ys : List Nat} {x b : Nat} (hgd : o.guard = none) (s t : Operand)
    (ho : o.op = .call { callee := .builtin .append, args := #[s, t], argTypes := #[31, 31] }) (hs : a.eval s = .slice (some ⟨b, 0, none⟩) 1 1) (hb : b = wr.heap.size) (hx : a.eval t = v) (hv : Nl wr v ys)
    (hy : x < TB) (hl : ys.length ≤ 1099511627776)
    (h : ∀ v' w', Ow w' wr.heap.size v' (x :: ys) → Below wr.heap.size wr w' → wpList Tryz.prog ops Q rest (a.put o.dst v') w') : wpList Tryz.prog ops Q (o :: rest) a (wr.alloc (.cells #[.int .i64 (x : Int)] 3)) := by
  obtain ⟨i0, hi, hz0, hz1, hz2⟩ := info_parts word_info
  have hO := nl_one wr x b hb hy
  have hv' := hv.keep (below_al wr (.cells #[.int .i64 (x : Int)] 3))
  obtain ⟨A, c, rfl, h1, h2, h3, h4⟩ := hv'
  cases A with
  | none =>
    have hc := h4 rfl
    have hy0 : ys = [] := by
      rcases h1.2 with e | ⟨b, o, e, _⟩
      · exact e
      · cases e
    subst hy0; subst hc
    exact wpList_append_own_none hgd s t 31 ho wr.heap.size 3 i0 1 Tryz.underlying31 hi _ 1 (wis [x]) hs hO.2 hx (h _ _ hO (below_al _ _))
  | some ad =>
    refine wpList_append_own _ hgd s t 31 ho wr.heap.size 3 i0 (.int .i64 0) 1 8 Tryz.underlying31 hi hz0 hz1 hz2 rfl (by decide) _ 1 (wis [x]) hs hO.2 ad ys.length c (wis ys) hx (by rw [wis_length, Nat.mul_one]) (rd_cells h1 ad rfl) (wis_one ys) (by unfold maxLen; omega) (by omega) (below_al _ _).size ?_
    intro v' w' hown hg _
    refine h v' w' ⟨All.cons hy hv.all, ?_⟩ ((below_al wr _).grown hg (below_al _ _).size (fun j hj => own_ge hO.2 j hj))
    rw [wis_app, Nat.add_comm] at hown
    exact hown
theorem sub_rs {w : World} {a b : Value} {m n : Nat} (ha : Nl w a (dg TB m)) (hb : Nl w b (dg TB n)) (hl : (dg TB m).length ≤ 274877906944) (h : n ≤ m) : Calls Tryz.prog 69 #[a, b] w fun e w' => ∃ v, e = .returned v ∧ Rs w w' v (m - n) := by
  obtain ⟨A, c, rfl, a1, a2, a3, a4⟩ := ha
  obtain ⟨B, d, rfl, b1, b2, b3, b4⟩ := hb
  have := sub_any A B c d (dg TB m) (dg TB n) w a1 b1 hl (dg_length_mono TB_one h) (by rw [val_dg TB_one, val_dg TB_one]; exact h)
  rw [val_dg TB_one, val_dg TB_one] at this
  exact this
def DivRel (n : Nat) (xs : List Nat) (B0 g la : Nat) (w wr : World) (k : Nat) (rv : Value) : Prop :=
  ∃ (R : Nat) (qs : List Nat), Ow wr B0 rv (dg TB R) ∧ Ow wr B0 (.slice (some ⟨g, 0, none⟩) la la) qs ∧ qs.length = la ∧ Below B0 w wr ∧ val TB (xs.drop k) = val TB (qs.drop k) * n + R ∧ R < n ∧ g < wr.heap.size
theorem div_nums {low high : Nat} (h1 : low + 1 < high) (h2 : high ≤ TB) : ∃ sm mid : Nat, (low : Int) + (high : Int) = (sm : Int) ∧ (sm : Int) / 2 = (mid : Int) ∧ sm < 20001 ∧ low < mid ∧ mid < high ∧ mid < TB :=
  ⟨low + high, (low + high) / 2, by omega, by omega, by rw [TB_eq] at h2; omega, by omega, by omega, by omega⟩
/-- What one place of the quotient leaves. -/
theorem div_place {n R x low k la : Nat} {xs qs : List Nat} (hlow : low * n ≤ R * TB + x) (hhigh : R * TB + x < (low + 1) * n) (hx : x = atD xs k) (hk : k < xs.length) (hq : k < qs.length) (h : val TB (xs.drop (k + 1)) = val TB (qs.drop (k + 1)) * n + R) :
    val TB (xs.drop k) = val TB ((qs.set k low).drop k) * n + (R * TB + x - n * low) ∧ R * TB + x - n * low < n := by
  have hn : 0 < n := by
    rcases Nat.eq_zero_or_pos n with h0 | h0
    · rw [h0] at hhigh; omega
    · exact h0
  rw [Nat.add_mul] at hhigh
  have e1 : (R * TB + x) / n = low := by
    apply Nat.div_eq_of_lt_le
    · exact hlow
    · rw [Nat.add_mul]; exact hhigh
  have e2 := by_step (W := n) hk hq h
  have e3 := Nat.div_add_mod (R * TB + x) n
  rw [← hx, e1] at e2
  rw [e1] at e3
  rw [Nat.mul_comm low n] at hlow hhigh
  refine ⟨by rw [e2]; omega, by omega⟩
end I
end Go.Proofs.YtgbfpimdnmmfpaaGreatDoor
