/-
  Two texts one behind the other, as the plain function has it.
-/
import Derived.Test.YtlkhiiadoggneaaF3
namespace Go.Proofs.Ytlkhiiadoggneaa
open Go Go.RowKit Go.Lib Go.Proofs

def bs (l : List UInt8) : ByteArray := ⟨l.toArray⟩
theorem bs_toList (l : List UInt8) : (bs l).data.toList = l := by simp [bs]
theorem bs_size (l : List UInt8) : (bs l).size = l.length := size_mk l
theorem bs_of (t : ByteArray) : bs t.data.toList = t := by simp [bs]
theorem ib_front (l r : List UInt8) (c : UInt8) (h : c ∉ l) : Lib.indexByte (l ++ c :: r) c = l.length := by
  induction l with
  | nil => simp [Lib.indexByte]
  | cons b l ih =>
    have hb : b ≠ c := by intro e; apply h; simp [e]
    have hl : c ∉ l := fun e => h (by simp [e])
    show (if b == c then 0 else if Lib.indexByte (l ++ c :: r) c == -1 then -1 else Lib.indexByte (l ++ c :: r) c + 1) = _
    rw [ih hl, if_neg (by simpa using hb), if_neg (by simp)]
    simp
theorem ib_none (l : List UInt8) (c : UInt8) (h : c ∉ l) : Lib.indexByte l c = -1 := by
  induction l with
  | nil => rfl
  | cons b l ih =>
    have hb : b ≠ c := by intro e; apply h; simp [e]
    have hl : c ∉ l := fun e => h (by simp [e])
    show (if b == c then 0 else if Lib.indexByte l c == -1 then -1 else Lib.indexByte l c + 1) = _
    rw [ih hl, if_neg (by simpa using hb)]; rfl
theorem cut_front (l r : List UInt8) (h : 10 ∉ l) : Lib.cut (l ++ 10 :: r) [10] = (l, r, true) := by
  unfold Lib.cut
  rw [Lib.index_one, ib_front l r 10 h, if_pos (by omega)]
  simp
theorem lineOf_front (l r : List UInt8) (h : 10 ∉ l) : lineOf (bs (l ++ 10 :: r)) = bs l ∧ restOf (bs (l ++ 10 :: r)) = bs r := by
  unfold lineOf restOf
  rw [bs_toList, cut_front l r h]
  exact ⟨rfl, rfl⟩
theorem first_nl (x : List UInt8) (h : 10 ∈ x) : ∃ l r, x = l ++ 10 :: r ∧ 10 ∉ l := by
  induction x with
  | nil => simp at h
  | cons c x ih =>
    by_cases hc : c = 10
    · exact ⟨[], x, by rw [hc]; rfl, by simp⟩
    · obtain ⟨l, r, e, hl⟩ := ih (by simpa [Ne.symm hc] using h)
      exact ⟨c :: l, r, by rw [e]; rfl, by simp [Ne.symm hc, hl]⟩

def EndsNL (x : List UInt8) : Prop := x = [] ∨ ∃ a, x = a ++ [10]
theorem EndsNL.rest {l r : List UInt8} (h : EndsNL (l ++ 10 :: r)) : EndsNL r := by
  rcases h with h | ⟨a, h⟩
  · simp at h
  · rcases List.eq_nil_or_concat r with rfl | ⟨r', c, rfl⟩
    · exact .inl rfl
    · right
      have h' : (l ++ 10 :: r') ++ [c] = a ++ [10] := by rw [← h, List.concat_eq_append]; simp
      have := (List.append_inj' h' rfl).2
      exact ⟨r', by rw [List.concat_eq_append, this]⟩
theorem EndsNL.mem {x : List UInt8} (h : EndsNL x) (hne : x ≠ []) : 10 ∈ x := by
  rcases h with h | ⟨a, rfl⟩
  · exact absurd h hne
  · simp
theorem data_app (a b : ByteArray) : (a ++ b).data.toList = a.data.toList ++ b.data.toList := by rw [ByteArray.data_append]; simp
theorem bs_ne {x : List UInt8} (h : x ≠ []) : (bs x).size ≠ 0 := by
  rw [bs_size]; intro e; exact h (List.eq_nil_of_length_eq_zero e)

theorem linesR_err (n : Nat) : ∀ (t : ByteArray) (all : Nat) (out : List Ln), t.size ≤ n → (linesR t all out).2.1 = 0 ∨ (linesR t all out).1 = [] := by
  induction n with
  | zero => intro t all out h; rw [linesR_end t all out (by omega)]; exact .inl rfl
  | succ n ih =>
    intro t all out h
    by_cases h0 : t.size = 0
    · rw [linesR_end t all out h0]; exact .inl rfl
    · have := restOf_size t h0
      rw [linesR_step t all out h0]
      split
      · exact .inr rfl
      · split
        · exact ih _ _ _ (by omega)
        · exact ih _ _ _ (by omega)

/-- A text that ends in a line's end, and another behind it. -/
theorem linesR_join (n : Nat) : ∀ (x y : List UInt8) (all : Nat) (out : List Ln), x.length ≤ n → EndsNL x →
    linesR (bs (x ++ y)) all out = if (linesR (bs x) all out).2.1 = 0 then linesR (bs y) (linesR (bs x) all out).2.2 (linesR (bs x) all out).1 else linesR (bs x) all out := by
  induction n with
  | zero =>
    intro x y all out h _
    have : x = [] := List.eq_nil_of_length_eq_zero (by omega)
    subst this
    rw [linesR_end (bs []) all out rfl]; rfl
  | succ n ih =>
    intro x y all out h hx
    by_cases h0 : x = []
    · subst h0
      rw [linesR_end (bs []) all out rfl]; rfl
    · obtain ⟨l, r, rfl, hl⟩ := first_nl x (hx.mem h0)
      have e1 := lineOf_front l r hl
      have e2 := lineOf_front l (r ++ y) hl
      have e3 : (l ++ 10 :: r) ++ y = l ++ 10 :: (r ++ y) := by simp
      rw [e3, linesR_step _ all out (bs_ne (by simp)), linesR_step (bs (l ++ 10 :: r)) all out (bs_ne h0)]
      rw [e1.1, e1.2, e2.1, e2.2]
      have hlen : r.length ≤ n := by simp at h; omega
      by_cases hb : hasBad (noCR (bs l)) = true
      · rw [if_pos hb, if_pos hb]; simp
      · rw [if_neg hb, if_neg hb]
        by_cases hc : counts (noCR (bs l)) = true
        · rw [if_pos hc, if_pos hc]; exact ih r y _ _ hlen hx.rest
        · rw [if_neg hc, if_neg hc]; exact ih r y _ _ hlen hx.rest

def up (k : Nat) (l : Ln) : Ln := ⟨l.no + k, l.head, l.words⟩
theorem up_zero (ls : List Ln) : ls.map (up 0) = ls := by
  induction ls with
  | nil => rfl
  | cons l ls ih => rw [List.map_cons, ih]; rfl
/-- Counted on, behind lines that were found before. -/
theorem linesR_shift (n : Nat) : ∀ (t : ByteArray) (k all : Nat) (out : List Ln), t.size ≤ n →
    linesR t (all + k) out = if (linesR t all []).2.1 = 0 then (out ++ (linesR t all []).1.map (up k), 0, (linesR t all []).2.2 + k) else ([], (linesR t all []).2.1, (linesR t all []).2.2 + k) := by
  induction n with
  | zero =>
    intro t k all out h
    rw [linesR_end t _ out (by omega), linesR_end t _ [] (by omega)]; simp
  | succ n ih =>
    intro t k all out h
    by_cases h0 : t.size = 0
    · rw [linesR_end t _ out h0, linesR_end t _ [] h0]; simp
    · have hr := restOf_size t h0
      rw [linesR_step t _ out h0, linesR_step t _ [] h0]
      by_cases hb : hasBad (noCR (lineOf t)) = true
      · rw [if_pos hb, if_pos hb]; simp; omega
      · rw [if_neg hb, if_neg hb]
        have hk : all + k + 1 = all + 1 + k := by omega
        by_cases hc : counts (noCR (lineOf t)) = true
        · rw [if_pos hc, if_pos hc]
          have a := ih (restOf t) k (all + 1) (out ++ [⟨all + 1 + k, !isBlank (first (noCR (lineOf t))), wordsOf (noCR (lineOf t))⟩]) (by omega)
          have b := ih (restOf t) 0 (all + 1) ([] ++ [⟨all + 1, !isBlank (first (noCR (lineOf t))), wordsOf (noCR (lineOf t))⟩]) (by omega)
          rw [hk, a]
          simp only [Nat.add_zero] at b
          rw [b, up_zero]
          by_cases he : (linesR (restOf t) (all + 1) []).2.1 = 0
          · rw [if_pos he, if_pos he]
            simp [up]
          · rw [if_neg he, if_neg he]
            simp [he]
        · rw [if_neg hc, if_neg hc, hk]; exact ih (restOf t) k (all + 1) out (by omega)

/-- The lines of two texts, the first one with a line's end behind it. -/
theorem lines_join (a b : ByteArray) (h : (a ++ ⟨#[10]⟩).size + b.size ≤ 65536) :
    linesOf ((a ++ ⟨#[10]⟩) ++ b) =
      if (linesOf (a ++ ⟨#[10]⟩)).2.1 = 0 then
        (if (linesOf b).2.1 = 0 then ((linesOf (a ++ ⟨#[10]⟩)).1 ++ (linesOf b).1.map (up (linesOf (a ++ ⟨#[10]⟩)).2.2), 0, (linesOf (a ++ ⟨#[10]⟩)).2.2 + (linesOf b).2.2)
         else ([], (linesOf b).2.1, (linesOf (a ++ ⟨#[10]⟩)).2.2 + (linesOf b).2.2))
      else ([], (linesOf (a ++ ⟨#[10]⟩)).2.1, (linesOf (a ++ ⟨#[10]⟩)).2.2) := by
  have hs : ((a ++ ⟨#[10]⟩) ++ b).size = (a ++ ⟨#[10]⟩).size + b.size := ByteArray.size_append
  have e1 : linesOf ((a ++ ⟨#[10]⟩) ++ b) = linesR ((a ++ ⟨#[10]⟩) ++ b) 0 [] := by unfold linesOf; rw [if_neg (by omega)]; rfl
  have e2 : linesOf (a ++ ⟨#[10]⟩) = linesR (a ++ ⟨#[10]⟩) 0 [] := by unfold linesOf; rw [if_neg (by omega)]; rfl
  have e3 : linesOf b = linesR b 0 [] := by unfold linesOf; rw [if_neg (by omega)]; rfl
  rw [e1, e2, e3]
  have hx : a ++ ⟨#[10]⟩ = bs (a.data.toList ++ [10]) := by
    rw [← bs_of (a ++ ⟨#[10]⟩), data_app]
  have hxy : (a ++ ⟨#[10]⟩) ++ b = bs ((a.data.toList ++ [10]) ++ b.data.toList) := by
    rw [← bs_of ((a ++ ⟨#[10]⟩) ++ b), data_app, data_app]
  have hj := linesR_join _ (a.data.toList ++ [10]) b.data.toList 0 [] (Nat.le_refl _) (.inr ⟨_, rfl⟩)
  rw [hxy, hx, hj, bs_of]
  by_cases he : (linesR (bs (a.data.toList ++ [10])) 0 []).2.1 = 0
  · rw [if_pos he, if_pos he]
    have hsh := linesR_shift _ b (linesR (bs (a.data.toList ++ [10])) 0 []).2.2 0 (linesR (bs (a.data.toList ++ [10])) 0 []).1 (Nat.le_refl _)
    rw [Nat.zero_add] at hsh
    rw [hsh]
    by_cases hf : (linesR b 0 []).2.1 = 0
    · rw [if_pos hf, if_pos hf]; simp; omega
    · rw [if_neg hf, if_neg hf]; simp; omega
  · rw [if_neg he, if_neg he]
    rcases linesR_err _ (bs (a.data.toList ++ [10])) 0 [] (Nat.le_refl _) with h1 | h1
    · exact absurd h1 he
    · exact Prod.ext h1 rfl
end Go.Proofs.Ytlkhiiadoggneaa
