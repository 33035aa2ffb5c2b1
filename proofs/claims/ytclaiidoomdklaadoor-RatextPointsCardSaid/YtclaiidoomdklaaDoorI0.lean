/-
  Places of a number in base 10000 in memory: the same facts as for words.
-/
import Derived.Test.YtclaiidoomdklaaDoorCopy
namespace Go.Proofs.YtclaiidoomdklaaDoor
namespace I
open Go Go.RowKit Go.Proofs Pl
set_option linter.unusedVariables false

/-- What a place counts up to. -/
def TB : Nat := 10000
theorem TB_eq : TB = 10000 := rfl
theorem TB_pos : 0 < TB := by decide
theorem TB_one : 1 < TB := by decide
attribute [irreducible] TB
def wis (xs : List Nat) : List Value := xs.map fun (x : Nat) => Value.int .i64 (x : Int)
theorem wis_length (xs : List Nat) : (wis xs).length = xs.length := List.length_map _
theorem wis_app (xs ys : List Nat) : wis xs ++ wis ys = wis (xs ++ ys) := by simp [wis]
theorem wis_get {xs : List Nat} {j : Nat} {x : Nat} (h : xs[j]? = some x) : (wis xs)[j]? = some (.int .i64 (x : Int)) := by simp [wis, h]
theorem wis_take (xs : List Nat) (n : Nat) : (wis xs).take n = wis (xs.take n) := by simp [wis, List.map_take]
theorem wis_set (xs : List Nat) (n : Nat) (x : Nat) : (wis xs).set n (.int .i64 (x : Int)) = wis (xs.set n x) := by simp [wis, List.map_set]
theorem wis_one (xs : List Nat) : ∀ u ∈ wis xs, u.oneCell' = true := by
  intro u hu
  obtain ⟨x, _, rfl⟩ := List.mem_map.1 hu
  rfl

/-- At address A lie these words. -/
def Rd (w : World) (A : Option Addr) (xs : List Nat) : Prop :=
  All TB xs ∧ (xs = [] ∨ ∃ b o, A = some ⟨b, o, none⟩ ∧ ∀ (j x : Nat), xs[j]? = some x → w.cell? ⟨b, o + j, none⟩ = some (.int .i64 (x : Int)))
/-- The slice v holds these words, in a row of the call's own, from block B on. -/
def Ow (w : World) (B : Nat) (v : Value) (xs : List Nat) : Prop := All TB xs ∧ w.ownsRow B 3 1 v xs.length (wis xs)

section
variable {w w' : World} {A : Option Addr} {xs : List Nat} {B : Nat} {v : Value}
theorem Rd.nil (w : World) (A : Option Addr) : Rd w A [] := ⟨All.nil, .inl rfl⟩
theorem Rd.at_ (h : Rd w A xs) {j : Nat} (hj : j < xs.length) : ∃ b o, A = some ⟨b, o, none⟩ ∧ (∀ (j x : Nat), xs[j]? = some x → w.cell? ⟨b, o + j, none⟩ = some (.int .i64 (x : Int))) := by
  rcases h.2 with rfl | h
  · simp at hj
  · exact h
theorem Rd.keep (h : Rd w A xs) (hb : Below w.heap.size w w') : Rd w' A xs := by
  refine ⟨h.1, h.2.imp id ?_⟩
  rintro ⟨b, o, hA, hc⟩
  exact ⟨b, o, hA, fun j x hj => (hb.cell (p := ⟨b, o + j, none⟩) (cell_lt (hc j x hj))).trans (hc j x hj)⟩
theorem Rd.drewN (h : Rd w A xs) (q : Nat) : Rd (w.drewN q) A xs := h
theorem Rd.take (h : Rd w A xs) (n : Nat) : Rd w A (xs.take n) := by
  refine ⟨h.1.take n, ?_⟩
  rcases h.2 with rfl | ⟨b, o, hA, hc⟩
  · exact .inl (by simp)
  · refine .inr ⟨b, o, hA, fun j x hj => hc j x ?_⟩
    rw [List.getElem?_take] at hj
    split at hj
    · exact hj
    · cases hj
theorem Rd.strip (h : Rd w A xs) : Rd w A (Pl.strip xs) := by rw [strip_eq_take]; exact h.take _
theorem Rd.drop {b o : Nat} (h : Rd w (some ⟨b, o, none⟩) xs) (n : Nat) : Rd w (some ⟨b, o + n, none⟩) (xs.drop n) := by
  refine ⟨h.1.drop n, ?_⟩
  rcases h.2 with rfl | ⟨b', o', hA, hc⟩
  · exact .inl (by simp)
  · injection hA with hA
    injection hA with h1 h2
    subst h1; subst h2
    refine .inr ⟨b, o + n, rfl, fun j x hj => ?_⟩
    rw [List.getElem?_drop] at hj
    rw [Nat.add_assoc]
    exact hc _ x hj

theorem Ow.slice (h : Ow w B v xs) : ∃ A c, v = .slice A xs.length c ∧ xs.length ≤ c ∧ c ≤ maxLen := by
  rcases h.2.2 with ⟨hv, h0⟩ | ⟨g, cap, cur, hv, hb, hh, h1, h2, h3, h4⟩
  · exact ⟨none, 0, by rw [hv, h0], by omega, by decide⟩
  · exact ⟨_, cap, hv, h1, h2⟩
theorem Ow.rd {n c : Nat} (h : Ow w B (.slice A n c) xs) : Rd w A xs := by
  refine ⟨h.1, ?_⟩
  rcases h.2.2 with ⟨hv, h0⟩ | ⟨g, cap, cur, hv, hb, hh, h1, h2, h3, h4⟩
  · exact .inl (List.eq_nil_of_length_eq_zero h0)
  · injection hv with hv hn hc
    refine .inr ⟨g, 0, hv, fun j x hj => ?_⟩
    have := cells_at (xs := wis xs) (g := g) (n := xs.length) (cap := cap) ⟨h.2.1, .inr ⟨g, cap, cur, rfl, hb, hh, h1, h2, h3, h4⟩⟩ j _ (wis_get hj)
    have e : (⟨g, 0, none⟩ : Addr).add j = ⟨g, 0 + j, none⟩ := by unfold Addr.add; split <;> simp_all
    rwa [e] at this
theorem Ow.keep (h : Ow w B v xs) (hb : Below w.heap.size w w') : Ow w' B v xs := ⟨h.1, own_keepT h.2 (KeepT.below hb)⟩
theorem Ow.mono {B' : Nat} (h : Ow w B v xs) (hB : B' ≤ B) : Ow w B' v xs := ⟨h.1, own_mono h.2 hB⟩
theorem Ow.drewN (h : Ow w B v xs) (q : Nat) : Ow (w.drewN q) B v xs := h
theorem Ow.nil (w : World) (B : Nat) : Ow w B (.slice none 0 0) [] := ⟨All.nil, World.ownsRow_nil _ _ _ _⟩
/-- Its first words. -/
theorem Ow.take {n c : Nat} (h : Ow w B (.slice A n c) xs) {k : Nat} (hk : k ≤ xs.length) : Ow w B (.slice A k c) (xs.take k) := by
  have hl : (xs.take k).length = k := by simp; omega
  refine ⟨h.1.take k, ?_⟩
  rw [hl]
  refine ⟨by simp [wis]; omega, ?_⟩
  rcases h.2.2 with ⟨hv, h0⟩ | ⟨g, cap, cur, hv, hb, hh, h1, h2, h3, h4⟩
  · injection hv with hv hn hc
    obtain rfl : k = 0 := by omega
    exact .inl ⟨by rw [hv, hc], rfl⟩
  · injection hv with hv hn hc
    refine .inr ⟨g, c, cur, by rw [hv], hb, hh, by omega, by omega, by rw [hc]; exact h3, ?_⟩
    rw [← wis_take, ← h4, List.take_take, Nat.mul_one, Nat.mul_one, Nat.min_eq_left hk]
theorem Ow.strip {n c : Nat} (h : Ow w B (.slice A n c) xs) : Ow w B (.slice A (Pl.strip xs).length c) (Pl.strip xs) := by
  have := h.take (strip_length_le xs)
  rwa [← strip_eq_take] at this
theorem Ow.lt (h : Ow w B v xs) : ∀ g, v.ownBlock = some g → B ≤ g ∧ g < w.heap.size := h.2.lt
/-- One word written. -/
theorem Ow.set_ {g n c : Nat} (h : Ow w B (.slice (some ⟨g, 0, none⟩) n c) xs) (hn : n = xs.length) {j : Nat} {x : Nat} (hx : x < TB) : Ow (w.setCell ⟨g, j, none⟩ (.int .i64 (x : Int))) B (.slice (some ⟨g, 0, none⟩) n c) (xs.set j x) := by
  subst hn
  refine ⟨h.1.set j hx, ?_⟩
  rw [List.length_set, ← wis_set]
  exact own_set h.2 _
theorem Ow.at_ {n c : Nat} (h : Ow w B (.slice A n c) xs) {j : Nat} (hj : j < xs.length) : ∃ g, A = some ⟨g, 0, none⟩ ∧ n = xs.length ∧ B ≤ g ∧ g < w.heap.size ∧ xs.length ≤ c ∧ c ≤ maxLen ∧ (∀ (j x : Nat), xs[j]? = some x → w.cell? ⟨g, j, none⟩ = some (.int .i64 (x : Int))) ∧ ∀ j, w.frozen? ⟨g, j, none⟩ = false := by
  obtain ⟨g, cap, hv, h1, h2, h3, h4, h5, h6⟩ := own_cells h.2 (by omega)
  injection hv with hv hn hc
  exact ⟨g, hv, hn, h1, h4, by omega, by omega, fun j x hx => h5 j _ (wis_get hx), h6⟩
end
theorem word_info : (Tryd.prog.info? 3).map (fun i => (i.zero, i.size, i.bytes)) = some (some (.int .i64 0), 1, 8) := by kernel_rfl
theorem atD_lt {xs : List Nat} (h : All TB xs) (i : Nat) : atD xs i < TB := h.getD TB_pos i
theorem rd_cells {w : World} {A : Option Addr} {xs : List Nat} (h : Rd w A xs) (ad : Addr) (hA : A = some ad) : ∀ j u, (wis xs)[j]? = some u → w.cell? (ad.add j) = some u := by
  intro j u hj
  have hlt : j < xs.length := by
    have := (List.getElem?_eq_some_iff.1 hj).1
    rwa [wis_length] at this
  obtain ⟨b, o, hA', hc⟩ := h.at_ hlt
  rw [hA] at hA'
  injection hA' with hA'
  subst hA'
  have e : (⟨b, o, none⟩ : Addr).add j = ⟨b, o + j, none⟩ := by unfold Addr.add; split <;> simp_all
  rw [e, hc j _ (List.getElem?_eq_getElem hlt)]
  rw [wis_get (List.getElem?_eq_getElem hlt)] at hj
  exact hj


theorem made_words (n : Nat) : (madeCells (Value.int .i64 0).cells (n * 1)).toList = wis (List.replicate n 0) := by
  rw [Nat.mul_one]
  apply List.ext_getElem
  · simp [madeCells, wis]
  · intro i h1 h2
    have e : i % 1 = 0 := Nat.mod_one i
    simp [madeCells, wis, Value.cells, e]

theorem made_words' (n : Nat) : (madeCells (Value.int .i64 0).cells (n * 1)) = (wis (List.replicate n 0)).toArray := by
  apply Array.toList_inj.1
  rw [made_words]
theorem made_own (w : World) (k c : Nat) (hk : k ≤ c) (hc : c ≤ maxLen) : Ow (w.alloc (.cells (wis (List.replicate c 0)).toArray 3)) w.heap.size (.slice (some ⟨w.heap.size, 0, none⟩) k c) (List.replicate k 0) := by
  refine ⟨All.replicate TB_pos _, by simp [wis], .inr ⟨w.heap.size, c, (wis (List.replicate c 0)).toArray, by simp, Nat.le_refl _, heap_alloc_new _ _, by simpa using hk, hc, by simp [wis], ?_⟩⟩
  simp [wis, List.take_replicate, Nat.min_eq_left hk]

theorem Ow.none_cap {w : World} {B n c : Nat} {xs : List Nat} {A : Option Addr} (h : Ow w B (.slice A n c) xs) : A = none → c = 0 := by
  rintro rfl
  rcases h.2.2 with ⟨hv, h0⟩ | ⟨g, cap, cur, hv, _⟩
  · injection hv
  · injection hv with hv; cases hv
/-- The slice v reads the words xs. -/
def Nl (w : World) (v : Value) (xs : List Nat) : Prop := ∃ A c, v = .slice A xs.length c ∧ Rd w A xs ∧ xs.length ≤ c ∧ c ≤ maxLen ∧ (A = none → c = 0)
/-- The slice v reads the number n, by L words at most. -/
def Nm (w : World) (L : Nat) (v : Value) (n : Nat) : Prop := ∃ xs, Nl w v xs ∧ xs.length ≤ L ∧ val TB xs = n
/-- v is a new number n in its one form. -/
def Rs (w w' : World) (v : Value) (n : Nat) : Prop := Ow w' w.heap.size v (dg TB n) ∧ Below w.heap.size w w'

section
variable {w w' w'' : World} {v a b : Value} {xs ys : List Nat} {L L' L1 L2 m n : Nat}
theorem Nl.keep (h : Nl w v xs) (hb : Below w.heap.size w w') : Nl w' v xs := by
  obtain ⟨A, c, h1, h2, h3⟩ := h
  exact ⟨A, c, h1, h2.keep hb, h3⟩
theorem Nm.keep (h : Nm w L v n) (hb : Below w.heap.size w w') : Nm w' L v n := by
  obtain ⟨xs, h1, h2⟩ := h
  exact ⟨xs, h1.keep hb, h2⟩
theorem Nm.mono (h : Nm w L v n) (hL : L ≤ L') : Nm w L' v n := by
  obtain ⟨xs, h1, h2, h3⟩ := h
  exact ⟨xs, h1, Nat.le_trans h2 hL, h3⟩
theorem Nm.lt (h : Nm w L v n) : n < TB ^ L := by
  obtain ⟨xs, ⟨A, c, -, h1, -⟩, h2, h3⟩ := h
  rw [← h3]
  exact Nat.lt_of_lt_of_le (val_lt h1.1) (Nat.pow_le_pow_right TB_pos h2)
theorem Ow.nl {B : Nat} (h : Ow w B v xs) : Nl w v xs := by
  obtain ⟨A, c, rfl, h1, h2⟩ := h.slice
  exact ⟨A, c, rfl, h.rd, h1, h2, h.none_cap⟩
theorem Rs.nl (h : Rs w w' v n) : Nl w' v (dg TB n) := h.1.nl
theorem Rs.nm (h : Rs w w' v n) (hn : n < TB ^ L) : Nm w' L v n := ⟨_, h.nl, dg_length_le TB_one hn, val_dg TB_one _⟩
theorem Nl.nm (h : Nl w v xs) : Nm w xs.length v (val TB xs) := ⟨xs, h, Nat.le_refl _, rfl⟩
theorem Nl.all (h : Nl w v xs) : All TB xs := by obtain ⟨A, c, -, h1, -⟩ := h; exact h1.1
theorem nl_nil (w : World) : Nl w (.slice none 0 0) [] := ⟨none, 0, rfl, Rd.nil _ _, Nat.le_refl _, by decide, fun _ => rfl⟩
end
end I
end Go.Proofs.YtclaiidoomdklaaDoor
