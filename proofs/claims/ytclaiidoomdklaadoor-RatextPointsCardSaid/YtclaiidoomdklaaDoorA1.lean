/-
  Lists of words in memory, and what they are worth.
-/
import Derived.Test.YtclaiidoomdklaaDoorProg
import Derived.WalkKit
import Derived.Lib.Hide
import Derived.Deep.Draws
import Derived.IntWalk
import Derived.Laws.AppendOwnNone
import Derived.Deep.QuietTactic
import Derived.BigQuiet
import Derived.Outline
import Derived.WalkSpells
import Derived.Deep.DeepMust
import Derived.Deep.DeepCutAuto
namespace Go.Proofs.YtclaiidoomdklaaDoor
namespace Pl

/-- The value of a list of digits, the least first. -/
def val (B : Nat) : List Nat → Nat
  | [] => 0
  | x :: xs => x + B * val B xs

/-- Without the noughts at the end. -/
def strip : List Nat → List Nat
  | [] => []
  | x :: xs => match strip xs with
    | [] => if x = 0 then [] else [x]
    | y :: ys => x :: y :: ys

def digsF (B : Nat) : Nat → Nat → List Nat
  | 0, _ => []
  | f + 1, n => if n = 0 then [] else (n % B) :: digsF B f (n / B)

/-- A number's digits, the last one not 0. -/
def dg (B n : Nat) : List Nat := digsF B n n

def All (B : Nat) (xs : List Nat) : Prop := ∀ x ∈ xs, x < B

theorem All.nil {B : Nat} : All B [] := fun _ h => absurd h (by simp)
theorem All.cons {B x : Nat} {xs : List Nat} (hx : x < B) (h : All B xs) : All B (x :: xs) := by
  intro y hy
  rcases List.mem_cons.1 hy with rfl | hy
  · exact hx
  · exact h _ hy
theorem All.head {B x : Nat} {xs : List Nat} (h : All B (x :: xs)) : x < B := h x (by simp)
theorem All.tail {B x : Nat} {xs : List Nat} (h : All B (x :: xs)) : All B xs := fun y hy => h y (by simp [hy])
theorem All.take {B : Nat} {xs : List Nat} (h : All B xs) (n : Nat) : All B (xs.take n) := fun y hy => h y (List.mem_of_mem_take hy)
theorem All.drop {B : Nat} {xs : List Nat} (h : All B xs) (n : Nat) : All B (xs.drop n) := fun y hy => h y (List.mem_of_mem_drop hy)
theorem All.append {B : Nat} {xs ys : List Nat} (h : All B xs) (k : All B ys) : All B (xs ++ ys) := by
  intro y hy
  rcases List.mem_append.1 hy with hy | hy
  · exact h _ hy
  · exact k _ hy
theorem All.get {B : Nat} {xs : List Nat} (h : All B xs) {i : Nat} (hi : i < xs.length) : xs[i] < B := h _ (List.getElem_mem hi)
theorem All.getD {B : Nat} {xs : List Nat} (h : All B xs) (hB : 0 < B) (i : Nat) : xs.getD i 0 < B := by
  rcases Nat.lt_or_ge i xs.length with hi | hi
  · rw [List.getD_eq_getElem?_getD, List.getElem?_eq_getElem hi]; exact h.get hi
  · rw [List.getD_eq_getElem?_getD, List.getElem?_eq_none hi]; exact hB
theorem All.replicate {B : Nat} (hB : 0 < B) (n : Nat) : All B (List.replicate n 0) := by
  intro y hy
  rw [List.eq_of_mem_replicate hy]; exact hB
theorem All.set {B : Nat} {xs : List Nat} (h : All B xs) (i : Nat) {v : Nat} (hv : v < B) : All B (xs.set i v) := by
  intro y hy
  rcases List.mem_or_eq_of_mem_set hy with hy | rfl
  · exact h _ hy
  · exact hv

theorem val_nil (B : Nat) : val B [] = 0 := rfl
theorem val_cons (B x : Nat) (xs : List Nat) : val B (x :: xs) = x + B * val B xs := rfl
theorem val_append (B : Nat) (xs ys : List Nat) : val B (xs ++ ys) = val B xs + B ^ xs.length * val B ys := by
  induction xs with
  | nil => simp [val]
  | cons x xs ih =>
    simp only [List.cons_append, val_cons, ih, List.length_cons, Nat.pow_succ]
    rw [Nat.mul_add, Nat.add_assoc, ← Nat.mul_assoc, Nat.mul_comm B (B ^ xs.length)]
theorem val_snoc (B : Nat) (xs : List Nat) (x : Nat) : val B (xs ++ [x]) = val B xs + B ^ xs.length * x := by
  rw [val_append]; simp [val]
theorem val_lt {B : Nat} {xs : List Nat} (h : All B xs) : val B xs < B ^ xs.length := by
  induction xs with
  | nil => simp [val]
  | cons x xs ih =>
    have h1 := ih h.tail
    have h2 := h.head
    rw [val_cons, List.length_cons, Nat.pow_succ, Nat.mul_comm (B ^ xs.length) B]
    have h3 : B * (val B xs + 1) ≤ B * B ^ xs.length := Nat.mul_le_mul_left B h1
    rw [Nat.mul_add] at h3
    omega
theorem val_replicate (B n : Nat) : val B (List.replicate n 0) = 0 := by
  induction n with
  | zero => rfl
  | succ n ih => rw [List.replicate_succ, val_cons, ih]; simp
theorem val_take_drop (B : Nat) (xs : List Nat) (n : Nat) (h : n ≤ xs.length) : val B xs = val B (xs.take n) + B ^ n * val B (xs.drop n) := by
  conv => lhs; rw [← List.take_append_drop n xs]
  rw [val_append, List.length_take, Nat.min_eq_left h]

theorem val_strip (B : Nat) (xs : List Nat) : val B (strip xs) = val B xs := by
  induction xs with
  | nil => rfl
  | cons x xs ih =>
    rw [val_cons, ← ih]
    rw [strip]
    cases hs : strip xs with
    | nil =>
      by_cases hx : x = 0
      · simp [hx, val]
      · simp [hx, val]
    | cons y ys => rfl
theorem strip_cons (x : Nat) (xs : List Nat) : strip (x :: xs) = match strip xs with
    | [] => if x = 0 then [] else [x]
    | y :: ys => x :: y :: ys := rfl
theorem strip_eq_take (xs : List Nat) : strip xs = xs.take (strip xs).length := by
  induction xs with
  | nil => rfl
  | cons x xs ih =>
    cases hs : strip xs with
    | nil =>
      by_cases hx : x = 0
      · simp [strip_cons, hs, hx]
      · simp [strip_cons, hs, hx]
    | cons y ys =>
      rw [strip_cons, hs]
      rw [hs] at ih
      simp only [List.length_cons] at ih ⊢
      rw [List.take_succ_cons, ← ih]
theorem strip_length_le (xs : List Nat) : (strip xs).length ≤ xs.length := by
  rw [strip_eq_take, List.length_take]; exact Nat.min_le_right _ _
theorem All.strip {B : Nat} {xs : List Nat} (h : All B xs) : All B (strip xs) := by
  rw [strip_eq_take]; exact h.take _

theorem strip_snoc (xs : List Nat) (x : Nat) : strip (xs ++ [x]) = if x = 0 then strip xs else xs ++ [x] := by
  induction xs with
  | nil => by_cases hx : x = 0 <;> simp [strip, hx]
  | cons a xs ih =>
    rw [List.cons_append, strip_cons, ih]
    by_cases hx : x = 0
    · simp [hx, strip_cons]
    · rw [if_neg hx, if_neg hx]
      cases hs : xs ++ [x] with
      | nil => simp at hs
      | cons y ys => rfl

/-- The last one isn't 0. -/
def Canon (xs : List Nat) : Prop := strip xs = xs
theorem canon_strip (xs : List Nat) : Canon (strip xs) := by
  unfold Canon
  induction xs with
  | nil => rfl
  | cons x xs ih =>
    cases hs : strip xs with
    | nil =>
      by_cases hx : x = 0
      · simp [hs, hx, strip]
      · simp [hs, hx, strip]
    | cons y ys =>
      rw [hs] at ih
      rw [strip_cons, hs]
      show strip (x :: y :: ys) = _
      rw [strip_cons, ih]

theorem strip_eq_nil {B : Nat} {xs : List Nat} (h : val B xs = 0) (hB : 0 < B) : strip xs = [] := by
  induction xs with
  | nil => rfl
  | cons x xs ih =>
    rw [val_cons] at h
    have hx : x = 0 := by omega
    have hv : val B xs = 0 := by
      have : B * val B xs = 0 := by omega
      rcases Nat.mul_eq_zero.1 this with h1 | h1
      · omega
      · exact h1
    simp [strip_cons, ih hv, hx]
theorem val_pos_of_strip {B : Nat} {xs : List Nat} (h : strip xs ≠ []) (hB : 0 < B) : 0 < val B xs := by
  rcases Nat.eq_zero_or_pos (val B xs) with h0 | h0
  · exact absurd (strip_eq_nil h0 hB) h
  · exact h0

theorem digsF_strip {B : Nat} (hB : 1 < B) : ∀ (xs : List Nat) (f : Nat), All B xs → val B xs ≤ f → digsF B f (val B xs) = strip xs := by
  intro xs
  induction xs with
  | nil =>
    intro f _ _
    cases f <;> rfl
  | cons x xs ih =>
    intro f h hf
    have hx := h.head
    rw [val_cons] at hf ⊢
    by_cases hz : x + B * val B xs = 0
    · have h0 : x = 0 := by omega
      have h1 : val B xs = 0 := by
        have : B * val B xs = 0 := by omega
        rcases Nat.mul_eq_zero.1 this with h1 | h1
        · omega
        · exact h1
      rw [hz]
      have : strip (x :: xs) = [] := by rw [strip_cons, strip_eq_nil h1 (by omega)]; simp [h0]
      rw [this]
      cases f <;> rfl
    · cases f with
      | zero => omega
      | succ f =>
        rw [digsF, if_neg hz]
        have hm : (x + B * val B xs) % B = x := by rw [Nat.add_mul_mod_self_left, Nat.mod_eq_of_lt hx]
        have hd : (x + B * val B xs) / B = val B xs := by
          rw [Nat.add_mul_div_left _ _ (by omega), Nat.div_eq_of_lt hx, Nat.zero_add]
        rw [hm, hd]
        have hle : val B xs ≤ f := by
          rcases Nat.eq_zero_or_pos (val B xs) with h0 | h0
          · omega
          · have : 2 * val B xs ≤ B * val B xs := Nat.mul_le_mul_right _ hB
            omega
        rw [ih f h.tail hle, strip_cons]
        cases hs : strip xs with
        | nil =>
          have hv : val B xs = 0 := by rw [← val_strip, hs]; rfl
          have : x ≠ 0 := by intro h0; apply hz; rw [h0, hv]; simp
          simp [this]
        | cons y ys => rfl
/-- THE ONE FORM: what is left without the noughts at the end is the number's digits. -/
theorem strip_eq_dg {B : Nat} (hB : 1 < B) {xs : List Nat} (h : All B xs) : strip xs = dg B (val B xs) := (digsF_strip hB xs _ h (Nat.le_refl _)).symm

theorem digsF_all {B : Nat} (hB : 0 < B) : ∀ f n : Nat, All B (digsF B f n) := by
  intro f
  induction f with
  | zero => intro n; exact All.nil
  | succ f ih =>
    intro n
    rw [digsF]
    split
    · exact All.nil
    · exact (ih _).cons (Nat.mod_lt _ hB)
theorem dg_all {B : Nat} (hB : 0 < B) (n : Nat) : All B (dg B n) := digsF_all hB _ _
theorem val_digsF {B : Nat} (hB : 1 < B) : ∀ f n : Nat, n ≤ f → val B (digsF B f n) = n := by
  intro f
  induction f with
  | zero => intro n h; have : n = 0 := by omega
            subst this; rfl
  | succ f ih =>
    intro n h
    rw [digsF]
    split
    · rename_i h0; rw [h0]; rfl
    · rename_i h0
      rw [val_cons, ih _ (by have := Nat.div_lt_self (Nat.pos_of_ne_zero h0) hB; omega), Nat.add_comm, Nat.div_add_mod]
theorem val_dg {B : Nat} (hB : 1 < B) (n : Nat) : val B (dg B n) = n := val_digsF hB n n (Nat.le_refl _)
theorem dg_zero (B : Nat) : dg B 0 = [] := rfl
theorem dg_eq_nil {B : Nat} (hB : 1 < B) (n : Nat) : dg B n = [] ↔ n = 0 := by
  constructor
  · intro h; rw [← val_dg hB n, h]; rfl
  · rintro rfl; rfl
theorem canon_dg {B : Nat} (hB : 1 < B) (n : Nat) : Canon (dg B n) := by
  have h := strip_eq_dg hB (dg_all (B := B) (by omega) n)
  rw [val_dg hB] at h
  exact h
theorem dg_val {B : Nat} (hB : 1 < B) {xs : List Nat} (h : All B xs) (hc : Canon xs) : dg B (val B xs) = xs := by
  rw [← strip_eq_dg hB h]; exact hc
theorem dg_inj {B : Nat} (hB : 1 < B) {m n : Nat} (h : dg B m = dg B n) : m = n := by
  rw [← val_dg hB m, h, val_dg hB]
theorem val_inj {B : Nat} (hB : 1 < B) {xs ys : List Nat} (hx : All B xs) (hy : All B ys) (hl : xs.length = ys.length) (h : val B xs = val B ys) : xs = ys := by
  induction xs generalizing ys with
  | nil => cases ys with
    | nil => rfl
    | cons y ys => simp at hl
  | cons x xs ih => cases ys with
    | nil => simp at hl
    | cons y ys =>
      rw [val_cons, val_cons] at h
      have h1 := hx.head
      have h2 := hy.head
      have e1 : x = y := by
        have := congrArg (· % B) h
        simp only [Nat.add_mul_mod_self_left] at this
        rwa [Nat.mod_eq_of_lt h1, Nat.mod_eq_of_lt h2] at this
      subst e1
      have e2 : val B xs = val B ys := Nat.eq_of_mul_eq_mul_left (show 0 < B by omega) (Nat.add_left_cancel h)
      rw [ih hx.tail hy.tail (by simpa using hl) e2]
theorem dg_length_le {B : Nat} (hB : 1 < B) {n k : Nat} (h : n < B ^ k) : (dg B n).length ≤ k := by
  rcases Nat.lt_or_ge k (dg B n).length with hk | hk
  · exfalso
    have hc := canon_dg hB n
    have hv := val_dg hB n
    have hs := val_take_drop B (dg B n) k (by omega)
    have hd : val B ((dg B n).drop k) = 0 := by
      rcases Nat.eq_zero_or_pos (val B ((dg B n).drop k)) with h0 | h0
      · exact h0
      · have : B ^ k * 1 ≤ B ^ k * val B ((dg B n).drop k) := Nat.mul_le_mul_left _ h0
        omega
    have ht : val B (dg B n) = val B ((dg B n).take k) := by rw [hs, hd]; simp
    have h1 : strip (dg B n) = strip ((dg B n).take k) := by
      rw [strip_eq_dg hB (dg_all (by omega) n), strip_eq_dg hB ((dg_all (by omega) n).take k), ht]
    have h2 := strip_length_le ((dg B n).take k)
    rw [← h1, hc, List.length_take] at h2
    omega
  · exact hk
theorem le_of_dg_length {B : Nat} (hB : 1 < B) {n k : Nat} (h : (dg B n).length ≤ k) : n < B ^ k := by
  have h1 := val_lt (dg_all (B := B) (by omega) n)
  rw [val_dg hB] at h1
  exact Nat.lt_of_lt_of_le h1 (Nat.pow_le_pow_right (by omega) h)
theorem dg_length_mono {B : Nat} (hB : 1 < B) {m n : Nat} (h : m ≤ n) : (dg B m).length ≤ (dg B n).length :=
  dg_length_le hB (Nat.lt_of_le_of_lt h (le_of_dg_length hB (Nat.le_refl _)))

/-! ### Place by place -/
def atD (xs : List Nat) (i : Nat) : Nat := xs.getD i 0
theorem atD_get {xs : List Nat} {i : Nat} (h : i < xs.length) : atD xs i = xs[i] := by
  unfold atD; rw [List.getD_eq_getElem?_getD, List.getElem?_eq_getElem h]; rfl
theorem atD_out {xs : List Nat} {i : Nat} (h : xs.length ≤ i) : atD xs i = 0 := by
  unfold atD; rw [List.getD_eq_getElem?_getD, List.getElem?_eq_none h]; rfl
/-- The value of the first i places. -/
def vt (B : Nat) (xs : List Nat) : Nat → Nat
  | 0 => 0
  | i + 1 => vt B xs i + B ^ i * atD xs i
theorem vt_eq (B : Nat) (xs : List Nat) (i : Nat) : vt B xs i = val B (xs.take i) := by
  induction i with
  | zero => simp [vt, val]
  | succ i ih =>
    rw [vt, ih]
    rcases Nat.lt_or_ge i xs.length with h | h
    · rw [atD_get h, List.take_succ_eq_append_getElem h, val_snoc, List.length_take, Nat.min_eq_left (by omega)]
    · rw [atD_out h, List.take_of_length_le h, List.take_of_length_le (by omega)]; simp
theorem vt_all (B : Nat) (xs : List Nat) {i : Nat} (h : xs.length ≤ i) : vt B xs i = val B xs := by
  rw [vt_eq, List.take_of_length_le h]
theorem mod_add_div' (n B : Nat) : n % B + B * (n / B) = n := Nat.mod_add_div n B

/-- A sum's next place. -/
theorem add_step {B : Nat} {xs ys zs : List Nat} {i c : Nat} (hl : zs.length = i) (h : val B zs + B ^ i * c = vt B xs i + vt B ys i) :
    val B (zs ++ [(atD xs i + atD ys i + c) % B]) + B ^ (i + 1) * ((atD xs i + atD ys i + c) / B) = vt B xs (i + 1) + vt B ys (i + 1) := by
  have e := mod_add_div' (atD xs i + atD ys i + c) B
  rw [val_snoc, hl, vt, vt, Nat.pow_succ, Nat.mul_assoc, Nat.add_assoc, ← Nat.mul_add, e, Nat.mul_add, Nat.mul_add]
  omega
/-- A difference's next place. -/
theorem sub_step {B : Nat} {xs ys zs : List Nat} {i c : Nat} (hB : 0 < B) (hx : atD xs i < B) (hy : atD ys i < B) (hc : c ≤ 1) (hl : zs.length = i) (h : val B zs + vt B ys i = vt B xs i + B ^ i * c) :
    val B (zs ++ [(atD xs i + B - atD ys i - c) % B]) + vt B ys (i + 1) = vt B xs (i + 1) + B ^ (i + 1) * (if atD xs i < atD ys i + c then 1 else 0) := by
  have e : (atD xs i + B - atD ys i - c) % B + atD ys i + c = atD xs i + B * (if atD xs i < atD ys i + c then 1 else 0) := by
    split
    · rw [Nat.mod_eq_of_lt (by omega)]; omega
    · rw [show atD xs i + B - atD ys i - c = (atD xs i - atD ys i - c) + B from by omega, Nat.add_mod_right, Nat.mod_eq_of_lt (by omega)]; omega
  have e2 := congrArg (B ^ i * ·) e
  simp only [Nat.mul_add] at e2
  rw [val_snoc, hl, vt, vt, Nat.pow_succ, Nat.mul_assoc]
  omega

/-- The row's next place is filled. -/
theorem fill_step (zs : List Nat) (n z : Nat) (h : zs.length < n) : (zs ++ List.replicate (n - zs.length) 0).set zs.length z = (zs ++ [z]) ++ List.replicate (n - (zs ++ [z]).length) 0 := by
  rw [List.set_append_right _ _ (Nat.le_refl _), Nat.sub_self, show n - zs.length = (n - (zs ++ [z]).length) + 1 from by simp; omega, List.replicate_succ]
  simp

theorem over_step {zs xs : List Nat} (z : Nat) (h : zs.length < xs.length) : (zs ++ xs.drop zs.length).set zs.length z = (zs ++ [z]) ++ xs.drop (zs ++ [z]).length := by
  rw [List.set_append_right _ _ (Nat.le_refl _), Nat.sub_self, List.drop_eq_getElem_cons h, List.length_append, List.append_assoc]
  rfl
theorem over_get {zs xs : List Nat} (h : zs.length < xs.length) : (zs ++ xs.drop zs.length)[zs.length]? = some (atD xs zs.length) := by
  rw [List.getElem?_append_right (Nat.le_refl _), Nat.sub_self, List.drop_eq_getElem_cons h, atD_get h]; rfl
end Pl
end Go.Proofs.YtclaiidoomdklaaDoor
namespace Go.Proofs.YtclaiidoomdklaaDoor
open Go Go.RowKit Go.Lib

/-- All blocks of element type t stay as they are. -/
def KeepT (t : TypeId) (w w' : World) : Prop := ∀ (k : Nat) (cs : Array Value) (m : Nat × Nat), w.heap[k]? = some (Obj.cells cs t m) → w'.heap[k]? = w.heap[k]?

section
variable {t : TypeId} {w w' w'' : World} {B size n : Nat} {v : Value} {xs : List Value}

theorem heap_lt {k : Nat} {o : Obj} (h : w.heap[k]? = some o) : k < w.heap.size := by
  rcases Nat.lt_or_ge k w.heap.size with hlt | hge
  · exact hlt
  · rw [Array.getElem?_eq_none hge] at h; cases h
theorem KeepT.refl (t : TypeId) (w : World) : KeepT t w w := fun _ _ _ _ => rfl
theorem KeepT.trans (h : KeepT t w w') (k : KeepT t w' w'') : KeepT t w w'' := fun i cs m hi => by
  have h1 := h i cs m hi
  rw [← h1]
  exact k i cs m (h1.trans hi)
theorem KeepT.below (h : Below w.heap.size w w') : KeepT t w w' := fun k _ _ hk => h.block k (heap_lt hk)
theorem KeepT.grown {row : Option Nat} (hg : w.grownBy w' row) (hr : ∀ g, row = some g → ∃ cs e m, w.heap[g]? = some (.cells cs e m) ∧ e ≠ t) : KeepT t w w' := fun k cs m hk => by
  refine hg.block k (heap_lt hk) (fun e => ?_)
  obtain ⟨cs', e', m', h1, h2⟩ := hr k e.symm
  rw [hk] at h1
  injection h1 with h1
  injection h1 with _ h3 _
  exact h2 h3.symm
theorem KeepT.alloc (w : World) (o : Obj) : KeepT t w (w.alloc o) := fun k _ _ hk => Below.heap_alloc w o k (heap_lt hk)
theorem KeepT.drewN (w : World) (q : Nat) : KeepT t w (w.drewN q) := fun _ _ _ _ => rfl
theorem KeepT.drew (w : World) : KeepT t w w.drew := fun _ _ _ _ => rfl
theorem KeepT.setCell {g : Nat} {cs : Array Value} {e : TypeId} {m : Nat × Nat} (hg : w.heap[g]? = some (.cells cs e m)) (hne : e ≠ t) {p : Addr} (hp : p.block = g) (u : Value) : KeepT t w (w.setCell p u) := fun k cs' m' hk => by
  refine Below.heap_setCell w p u k (fun e' => ?_)
  subst e'
  rw [hp, hg] at hk
  injection hk with hk
  injection hk with _ h3 _
  exact hne h3

/-- A row of elements of type t is kept. -/
theorem own_keepT (h : w.ownsRow B t size v n xs) (hk : KeepT t w w') : w'.ownsRow B t size v n xs := by
  obtain ⟨h1, h2⟩ := h
  refine ⟨h1, ?_⟩
  rcases h2 with h2 | ⟨g, cap, cur, hv, hg, hh, r⟩
  · exact Or.inl h2
  · exact Or.inr ⟨g, cap, cur, hv, hg, (hk g _ _ hh).trans hh, r⟩
theorem own_mono {B' : Nat} (h : w.ownsRow B t size v n xs) (hB : B' ≤ B) : w.ownsRow B' t size v n xs := by
  obtain ⟨h1, h2⟩ := h
  refine ⟨h1, ?_⟩
  rcases h2 with h2 | ⟨g, cap, cur, hv, hg, r⟩
  · exact Or.inl h2
  · exact Or.inr ⟨g, cap, cur, hv, Nat.le_trans hB hg, r⟩
/-- The block of such a row bears that element type. -/
theorem own_type (h : w.ownsRow B t size v n xs) : ∀ g, v.ownBlock = some g → ∃ cs e m, w.heap[g]? = some (.cells cs e m) ∧ e = t := by
  intro g hg
  rcases h.2 with ⟨rfl, _⟩ | ⟨g', cap, cur, rfl, _, hh, _⟩
  · simp [Value.ownBlock] at hg
  · have : g' = g := by simpa [Value.ownBlock] using hg
    subst this
    exact ⟨cur, t, (0, 0), hh, rfl⟩
theorem own_ge (h : w.ownsRow B t size v n xs) : ∀ g, v.ownBlock = some g → B ≤ g := fun g hg => (h.lt g hg).1
theorem own_keepT_of {t' : TypeId} (h : w.ownsRow B t' size v n xs) (hg : w.grownBy w' v.ownBlock) (hne : t' ≠ t) : KeepT t w w' :=
  .grown hg fun g e => by
    obtain ⟨cs, e, m, h1, h2⟩ := own_type h g e
    exact ⟨cs, e, m, h1, by rw [h2]; exact hne⟩
end

theorem size_zero_iff (s : ByteArray) : s.size = 0 ↔ s = ByteArray.empty := by
  constructor
  · intro h
    apply ByteArray.ext
    exact Array.size_eq_zero_iff.1 h
  · rintro rfl; rfl
theorem isEmpty_true {s : ByteArray} (h : s.size = 0) : s.toList.isEmpty = true := by
  rw [← decide_eq_emptyBytes (inst := inferInstance)]
  simp [(size_zero_iff s).1 h]
theorem isEmpty_false {s : ByteArray} (h : s.size ≠ 0) : s.toList.isEmpty = false := by
  rw [← decide_eq_emptyBytes (inst := inferInstance)]
  simp only [decide_eq_false_iff_not]
  intro e; exact h ((size_zero_iff s).2 e)
/-- The cells of a new block. -/
theorem cells_new (w : World) (cs : Array Value) (e : TypeId) : ∀ j u, cs.toList[j]? = some u → (w.alloc (.cells cs e)).cell? ((⟨w.heap.size, 0, none⟩ : Addr).add j) = some u := by
  intro j u hj
  have : (⟨w.heap.size, 0, none⟩ : Addr).add j = ⟨w.heap.size, j, none⟩ := by unfold Addr.add; split <;> simp_all
  rw [this, World.cell?_alloc_new]
  simpa using hj
theorem cell_lt {w : World} {b o : Nat} {sp : Option Nat} {v : Value} (h : w.cell? ⟨b, o, sp⟩ = some v) : b < w.heap.size := by
  rcases Nat.lt_or_ge b w.heap.size with hlt | hge
  · exact hlt
  · simp [World.cell?, Array.getElem?_eq_none hge] at h
theorem cell_lt' {w : World} {p : Addr} {v : Value} (h : w.cell? p = some v) : p.block < w.heap.size := by
  obtain ⟨b, o, sp⟩ := p
  exact cell_lt h
theorem byte_lt (b : UInt8) : b.toNat < 256 := by have := b.toBitVec.isLt; simpa using this
theorem wrap32_byte (b : UInt8) : wrap32 (b.toNat : Int) = (b.toNat : Int) := IntWalk.wrap32_in _ (by have := byte_lt b; omega)
end Go.Proofs.YtclaiidoomdklaaDoor
namespace Go.Proofs.YtclaiidoomdklaaDoor
open Go Go.RowKit Go.Lib

/-- The cells of an owned row, place by place. -/
theorem own_cells {w : World} {B : Nat} {t : TypeId} {size n : Nat} {v : Value} {xs : List Value} (h : w.ownsRow B t size v n xs) (hn : 0 < n) :
    ∃ g cap, v = .slice (some ⟨g, 0, none⟩) n cap ∧ B ≤ g ∧ n ≤ cap ∧ cap ≤ maxLen ∧ g < w.heap.size ∧ (∀ (j : Nat) (u : Value), xs[j]? = some u → w.cell? ⟨g, j, none⟩ = some u) ∧ (∀ j, w.frozen? ⟨g, j, none⟩ = false) := by
  rcases h.2 with ⟨_, h0⟩ | ⟨g, cap, cur, hv, hb, hh, h1, h2, h3, h4⟩
  · omega
  · refine ⟨g, cap, hv, hb, h1, h2, heap_lt hh, fun j u hj => ?_, fun j => by simp [World.frozen?, hh]⟩
    rw [cell_of_row w g j cur t _ hh, ← Array.getElem?_toList]
    rw [← h4] at hj
    rw [List.getElem?_take] at hj
    split at hj
    · exact hj
    · cases hj

theorem own_slice {w : World} {B : Nat} {t : TypeId} {size n : Nat} {v : Value} {xs : List Value} (h : w.ownsRow B t size v n xs) : ∃ A cap, v = .slice A n cap ∧ n ≤ maxLen := by
  rcases h.2 with ⟨hv, h0⟩ | ⟨g, cap, cur, hv, hb, hh, h1, h2, h3, h4⟩
  · exact ⟨none, 0, by rw [hv, h0], by omega⟩
  · exact ⟨_, cap, hv, by omega⟩
theorem own_set {w : World} {B : Nat} {t : TypeId} {size n cap g : Nat} {xs : List Value} (h : w.ownsRow B t size (.slice (some ⟨g, 0, none⟩) n cap) n xs) {j : Nat} (u : Value) :
    (w.setCell ⟨g, j, none⟩ u).ownsRow B t size (.slice (some ⟨g, 0, none⟩) n cap) n (xs.set j u) := by
  obtain ⟨h1, h2⟩ := h
  refine ⟨by rw [List.length_set]; exact h1, ?_⟩
  rcases h2 with ⟨h2, _⟩ | ⟨g', cap', cur, hv, hg, hh, a, b, c, d⟩
  · cases h2
  · injection hv with hv _ hc
    injection hv with hv
    injection hv with hv
    subst hv; subst hc
    refine .inr ⟨g, cap, cur.setIfInBounds j u, rfl, hg, ?_, a, b, by simpa using c, ?_⟩
    · simp [World.setCell, Array.getElem?_modify, hh]
    · rw [Array.toList_setIfInBounds, List.take_set, d]
theorem own_grown_below {w w' : World} {B : Nat} {t : TypeId} {size n : Nat} {v : Value} {xs : List Value} {row : Option Nat} (h : w.ownsRow B t size v n xs) (hg : w.grownBy w' row) (hr : ∀ k, row = some k → k < B) : w'.ownsRow B t size v n xs := by
  obtain ⟨h1, h2⟩ := h
  refine ⟨h1, ?_⟩
  rcases h2 with h2 | ⟨g, cap, cur, hv, hB, hh, r⟩
  · exact Or.inl h2
  · exact Or.inr ⟨g, cap, cur, hv, hB, (hg.block g (heap_lt hh) (fun e => by have := hr g e.symm; omega)).trans hh, r⟩
theorem wpList_wanted {P : Program} {o : Oper} {a : Act} {w : World} {ops : Array Oper} {rest : List Oper} {Q : Exit → Act → World → Prop} (hw : Region.wanted o (yielded ops a.tmps) = true)
    (h : ∀ K : Act → World → Prop, (∀ a w, wpList P ops Q rest a w → K a w) → o.wp P a w K Q) : wpList P ops Q (o :: rest) a w :=
  wpList_step fun K hK => by rw [if_pos hw]; exact h K hK
theorem wpList_append_w {P : Program} {w : World} {ops : Array Oper} {rest : List Oper} {o : Oper} {a : Act} {Q : Exit → Act → World → Prop} (hw : Region.wanted o (yielded ops a.tmps) = true) (s x : Operand) (t : TypeId)
    (ho : o.op = .call { callee := .builtin .append, args := #[s, x], argTypes := #[t, t] })
    (base : Nat) (e : TypeId) (i : TypeInfo) (z : Value) (size bytes : Nat) (ht : P.underlying t = some (.slice e)) (hi : P.info? e = some i) (hz : i.zero = some z)
    (hsize : i.size = size) (hby : i.bytes = bytes) (hzs : z.cells.size = size) (hsz : 0 < size)
    (v : Value) (n : Nat) (xs : List Value) (hs : a.eval s = v) (hown : w.ownsRow base e size v n xs)
    (ad : Addr) (m c : Nat) (news : List Value) (hx : a.eval x = .slice (some ad) m c) (hl : news.length = m * size) (hnews : ∀ j u, news[j]? = some u → w.cell? (ad.add j) = some u) (h1 : ∀ u ∈ news, u.oneCell' = true)
    (h63 : n + m ≤ maxLen) (hbytes : (n + m) * bytes ≤ 140737488355328) (hbase : base ≤ w.heap.size)
    (h : ∀ v' w', w'.ownsRow base e size v' (n + m) (xs ++ news) → w.grownBy w' v.ownBlock → (v' = .slice none 0 0 ↔ v = .slice none 0 0 ∧ m = 0) → wpList P ops Q rest (a.put o.dst v') w') : wpList P ops Q (o :: rest) a w :=
  wpList_wanted hw fun _ hK => wp_append_own w s x t ho base e i z size bytes ht hi hz hsize hby hzs hsz v n xs hs hown ad m c news hx hl hnews h1 h63 hbytes hbase fun v' w' h2 h3 h4 => hK _ _ (h v' w' h2 h3 h4)
theorem wpList_append_none_w {P : Program} {w : World} {ops : Array Oper} {rest : List Oper} {o : Oper} {a : Act} {Q : Exit → Act → World → Prop} (hw : Region.wanted o (yielded ops a.tmps) = true) (s x : Operand) (t : TypeId)
    (ho : o.op = .call { callee := .builtin .append, args := #[s, x], argTypes := #[t, t] })
    (base : Nat) (e : TypeId) (i : TypeInfo) (size : Nat) (ht : P.underlying t = some (.slice e)) (hi : P.info? e = some i)
    (v : Value) (n : Nat) (xs : List Value) (hs : a.eval s = v) (hown : w.ownsRow base e size v n xs) (hx : a.eval x = .slice none 0 0)
    (h : wpList P ops Q rest (a.put o.dst v) w) : wpList P ops Q (o :: rest) a w := by
  refine wpList_wanted hw fun K hK => ?_
  have hrun := run_append_owned_none (P := P) (w := w) base t o.type e i size ht hi v n xs hown
  unfold Oper.wp
  simp [execOp, ho, resolve, invoke, builtin, hs, hx, hrun, Result.andThen]
  exact hK _ _ h
theorem cells_at {w : World} {B : Nat} {t : TypeId} {size n cap g : Nat} {xs : List Value} (h : w.ownsRow B t size (.slice (some ⟨g, 0, none⟩) n cap) n xs) : ∀ j u, xs[j]? = some u → w.cell? ((⟨g, 0, none⟩ : Addr).add j) = some u := h.cells (g := g) rfl
theorem below_drewN {B : Nat} {a w : World} (h : Below B a w) (q : Nat) : Below B a (w.drewN q) := ⟨h.os, h.tape, h.output, h.size, h.block⟩
theorem below_drewN_r {B : Nat} {a w : World} {q : Nat} (h : Below B (a.drewN q) w) : Below B a w := ⟨h.os, h.tape, h.output, h.size, h.block⟩
/-- Two steps, each above the world that it began in. -/
theorem below_trans {a b c : World} (h : Below a.heap.size a b) (k : Below b.heap.size b c) : Below a.heap.size a c := h.trans (k.mono h.size)
end Go.Proofs.YtclaiidoomdklaaDoor
namespace Go.Proofs.YtclaiidoomdklaaDoor
open Go Go.RowKit Go.Lib Pl

/-- What a word counts up to. -/
def WB : Nat := 18446744073709551616
theorem WB_eq : WB = 18446744073709551616 := rfl
theorem WB_pos : 0 < WB := by decide
theorem WB_one : 1 < WB := by decide
attribute [irreducible] WB
def wis (xs : List Nat) : List Value := xs.map fun (x : Nat) => Value.int .u64 (x : Int)
theorem wis_length (xs : List Nat) : (wis xs).length = xs.length := List.length_map _
theorem wis_app (xs ys : List Nat) : wis xs ++ wis ys = wis (xs ++ ys) := by simp [wis]
theorem wis_get {xs : List Nat} {j : Nat} {x : Nat} (h : xs[j]? = some x) : (wis xs)[j]? = some (.int .u64 (x : Int)) := by simp [wis, h]
theorem wis_take (xs : List Nat) (n : Nat) : (wis xs).take n = wis (xs.take n) := by simp [wis, List.map_take]
theorem wis_set (xs : List Nat) (n : Nat) (x : Nat) : (wis xs).set n (.int .u64 (x : Int)) = wis (xs.set n x) := by simp [wis, List.map_set]
theorem wis_one (xs : List Nat) : ∀ u ∈ wis xs, u.oneCell' = true := by
  intro u hu
  obtain ⟨x, _, rfl⟩ := List.mem_map.1 hu
  rfl

/-- At address A lie these words. -/
def Rd (w : World) (A : Option Addr) (xs : List Nat) : Prop :=
  All WB xs ∧ (xs = [] ∨ ∃ b o, A = some ⟨b, o, none⟩ ∧ ∀ (j x : Nat), xs[j]? = some x → w.cell? ⟨b, o + j, none⟩ = some (.int .u64 (x : Int)))
/-- The slice v holds these words, in a row of the call's own, from block B on. -/
def Ow (w : World) (B : Nat) (v : Value) (xs : List Nat) : Prop := All WB xs ∧ w.ownsRow B 42 1 v xs.length (wis xs)

section
variable {w w' : World} {A : Option Addr} {xs : List Nat} {B : Nat} {v : Value}
theorem Rd.nil (w : World) (A : Option Addr) : Rd w A [] := ⟨All.nil, .inl rfl⟩
theorem Rd.at_ (h : Rd w A xs) {j : Nat} (hj : j < xs.length) : ∃ b o, A = some ⟨b, o, none⟩ ∧ (∀ (j x : Nat), xs[j]? = some x → w.cell? ⟨b, o + j, none⟩ = some (.int .u64 (x : Int))) := by
  rcases h.2 with rfl | h
  · simp at hj
  · exact h
theorem Rd.keep (h : Rd w A xs) (hb : Below w.heap.size w w') : Rd w' A xs := by
  refine ⟨h.1, h.2.imp id ?_⟩
  rintro ⟨b, o, hA, hc⟩
  exact ⟨b, o, hA, fun j x hj => (hb.cell (p := ⟨b, o + j, none⟩) (cell_lt (hc j x hj))).trans (hc j x hj)⟩
theorem Rd.drewN (h : Rd w A xs) (q : Nat) : Rd (w.drewN q) A xs := h
theorem Rd.take (h : Rd w A xs) (n : Nat) : Rd w A (xs.take n) := by
  refine ⟨h.1.take n, ?_⟩
  rcases h.2 with rfl | ⟨b, o, hA, hc⟩
  · exact .inl (by simp)
  · refine .inr ⟨b, o, hA, fun j x hj => hc j x ?_⟩
    rw [List.getElem?_take] at hj
    split at hj
    · exact hj
    · cases hj
theorem Rd.strip (h : Rd w A xs) : Rd w A (Pl.strip xs) := by rw [strip_eq_take]; exact h.take _
theorem Rd.drop {b o : Nat} (h : Rd w (some ⟨b, o, none⟩) xs) (n : Nat) : Rd w (some ⟨b, o + n, none⟩) (xs.drop n) := by
  refine ⟨h.1.drop n, ?_⟩
  rcases h.2 with rfl | ⟨b', o', hA, hc⟩
  · exact .inl (by simp)
  · injection hA with hA
    injection hA with h1 h2
    subst h1; subst h2
    refine .inr ⟨b, o + n, rfl, fun j x hj => ?_⟩
    rw [List.getElem?_drop] at hj
    rw [Nat.add_assoc]
    exact hc _ x hj

theorem Ow.slice (h : Ow w B v xs) : ∃ A c, v = .slice A xs.length c ∧ xs.length ≤ c ∧ c ≤ maxLen := by
  rcases h.2.2 with ⟨hv, h0⟩ | ⟨g, cap, cur, hv, hb, hh, h1, h2, h3, h4⟩
  · exact ⟨none, 0, by rw [hv, h0], by omega, by decide⟩
  · exact ⟨_, cap, hv, h1, h2⟩
theorem Ow.rd {n c : Nat} (h : Ow w B (.slice A n c) xs) : Rd w A xs := by
  refine ⟨h.1, ?_⟩
  rcases h.2.2 with ⟨hv, h0⟩ | ⟨g, cap, cur, hv, hb, hh, h1, h2, h3, h4⟩
  · exact .inl (List.eq_nil_of_length_eq_zero h0)
  · injection hv with hv hn hc
    refine .inr ⟨g, 0, hv, fun j x hj => ?_⟩
    have := cells_at (xs := wis xs) (g := g) (n := xs.length) (cap := cap) ⟨h.2.1, .inr ⟨g, cap, cur, rfl, hb, hh, h1, h2, h3, h4⟩⟩ j _ (wis_get hj)
    have e : (⟨g, 0, none⟩ : Addr).add j = ⟨g, 0 + j, none⟩ := by unfold Addr.add; split <;> simp_all
    rwa [e] at this
theorem Ow.keep (h : Ow w B v xs) (hb : Below w.heap.size w w') : Ow w' B v xs := ⟨h.1, own_keepT h.2 (KeepT.below hb)⟩
theorem Ow.mono {B' : Nat} (h : Ow w B v xs) (hB : B' ≤ B) : Ow w B' v xs := ⟨h.1, own_mono h.2 hB⟩
theorem Ow.drewN (h : Ow w B v xs) (q : Nat) : Ow (w.drewN q) B v xs := h
theorem Ow.nil (w : World) (B : Nat) : Ow w B (.slice none 0 0) [] := ⟨All.nil, World.ownsRow_nil _ _ _ _⟩
/-- Its first words. -/
theorem Ow.take {n c : Nat} (h : Ow w B (.slice A n c) xs) {k : Nat} (hk : k ≤ xs.length) : Ow w B (.slice A k c) (xs.take k) := by
  have hl : (xs.take k).length = k := by simp; omega
  refine ⟨h.1.take k, ?_⟩
  rw [hl]
  refine ⟨by simp [wis]; omega, ?_⟩
  rcases h.2.2 with ⟨hv, h0⟩ | ⟨g, cap, cur, hv, hb, hh, h1, h2, h3, h4⟩
  · injection hv with hv hn hc
    obtain rfl : k = 0 := by omega
    exact .inl ⟨by rw [hv, hc], rfl⟩
  · injection hv with hv hn hc
    refine .inr ⟨g, c, cur, by rw [hv], hb, hh, by omega, by omega, by rw [hc]; exact h3, ?_⟩
    rw [← wis_take, ← h4, List.take_take, Nat.mul_one, Nat.mul_one, Nat.min_eq_left hk]
theorem Ow.strip {n c : Nat} (h : Ow w B (.slice A n c) xs) : Ow w B (.slice A (Pl.strip xs).length c) (Pl.strip xs) := by
  have := h.take (strip_length_le xs)
  rwa [← strip_eq_take] at this
theorem Ow.lt (h : Ow w B v xs) : ∀ g, v.ownBlock = some g → B ≤ g ∧ g < w.heap.size := h.2.lt
/-- One word written. -/
theorem Ow.set_ {g n c : Nat} (h : Ow w B (.slice (some ⟨g, 0, none⟩) n c) xs) (hn : n = xs.length) {j : Nat} {x : Nat} (hx : x < WB) : Ow (w.setCell ⟨g, j, none⟩ (.int .u64 (x : Int))) B (.slice (some ⟨g, 0, none⟩) n c) (xs.set j x) := by
  subst hn
  refine ⟨h.1.set j hx, ?_⟩
  rw [List.length_set, ← wis_set]
  exact own_set h.2 _
theorem Ow.at_ {n c : Nat} (h : Ow w B (.slice A n c) xs) {j : Nat} (hj : j < xs.length) : ∃ g, A = some ⟨g, 0, none⟩ ∧ n = xs.length ∧ B ≤ g ∧ g < w.heap.size ∧ xs.length ≤ c ∧ c ≤ maxLen ∧ (∀ (j x : Nat), xs[j]? = some x → w.cell? ⟨g, j, none⟩ = some (.int .u64 (x : Int))) ∧ ∀ j, w.frozen? ⟨g, j, none⟩ = false := by
  obtain ⟨g, cap, hv, h1, h2, h3, h4, h5, h6⟩ := own_cells h.2 (by omega)
  injection hv with hv hn hc
  exact ⟨g, hv, hn, h1, h4, by omega, by omega, fun j x hx => h5 j _ (wis_get hx), h6⟩
end
theorem word_info : (Tryd.prog.info? 42).map (fun i => (i.zero, i.size, i.bytes)) = some (some (.int .u64 0), 1, 8) := by kernel_rfl
end Go.Proofs.YtclaiidoomdklaaDoor
