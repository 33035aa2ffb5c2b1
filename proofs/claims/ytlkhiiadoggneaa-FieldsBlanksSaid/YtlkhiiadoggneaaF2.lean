/-
  The lines of a text as a plain function, and how they lie in memory.
-/
import Derived.Test.YtlkhiiadoggneaaMem
import Derived.Test.YtlkhiiadoggneaaF1
namespace Go.Proofs.Ytlkhiiadoggneaa
open Go Go.RowKit Go.Lib Go.Proofs

/-- A line that counts. -/
structure Ln where
  no : Nat
  head : Bool
  words : List ByteArray

def lineOf (t : ByteArray) : ByteArray := ⟨(Lib.cut t.data.toList [10]).1.toArray⟩
def restOf (t : ByteArray) : ByteArray := ⟨(Lib.cut t.data.toList [10]).2.1.toArray⟩
def cutHit (t : ByteArray) : Bool := (Lib.cut t.data.toList [10]).2.2
def noCR (t : ByteArray) : ByteArray := ⟨(Lib.trimSuffix t.data.toList [13]).toArray⟩
def hasBad (t : ByteArray) : Bool := decide (0 ≤ Lib.idxFunc isBad true t)
def wordsOf (t : ByteArray) : List ByteArray := Lib.goFieldsP isBlank t
def first (t : ByteArray) : Nat := (t.data.toList.headD 0).toNat

/-- Does the line count? -/
def counts (t : ByteArray) : Bool := !(wordsOf t).isEmpty && decide (first t ≠ 42)

def linesF : Nat → ByteArray → Nat → List Ln → List Ln × Nat × Nat
  | 0, _, all, out => (out, 0, all)
  | f + 1, rest, all, out =>
    if rest.size = 0 then (out, 0, all)
    else if hasBad (noCR (lineOf rest)) then ([], 80, all + 1)
    else if counts (noCR (lineOf rest)) then linesF f (restOf rest) (all + 1) (out ++ [⟨all + 1, !isBlank (first (noCR (lineOf rest))), wordsOf (noCR (lineOf rest))⟩])
    else linesF f (restOf rest) (all + 1) out

/-- What fields.Lines answers. -/
def linesOf (t : ByteArray) : List Ln × Nat × Nat := if 65536 < t.size then ([], 1, 0) else linesF t.size t 0 []

theorem cut_len (l : List UInt8) : (Lib.cut l [10]).1.length ≤ l.length ∧ (l ≠ [] → (Lib.cut l [10]).2.1.length < l.length) := by
  unfold Lib.cut
  split
  · refine ⟨by simp; omega, fun h => ?_⟩
    have : 0 < l.length := List.length_pos_iff.2 h
    simp; omega
  · refine ⟨by simp, fun h => by simpa using List.length_pos_iff.2 h⟩
theorem size_toList (t : ByteArray) : t.data.toList.length = t.size := Array.length_toList
theorem size_mk (l : List UInt8) : (⟨l.toArray⟩ : ByteArray).size = l.length := List.size_toArray ..
theorem lineOf_size (t : ByteArray) : (lineOf t).size ≤ t.size := by
  have := (cut_len t.data.toList).1
  rw [size_toList] at this
  rw [lineOf, size_mk]; exact this
theorem restOf_size (t : ByteArray) (h : t.size ≠ 0) : (restOf t).size < t.size := by
  have := (cut_len t.data.toList).2 (by intro e; apply h; rw [← size_toList, e]; rfl)
  rw [size_toList] at this
  rw [restOf, size_mk]; exact this
theorem noCR_size (t : ByteArray) : (noCR t).size ≤ t.size := by
  unfold noCR Lib.trimSuffix
  split
  · rw [size_mk, List.length_take, size_toList]; omega
  · rw [size_mk, size_toList]; exact Nat.le_refl _

/-- How lines lie as cells: a number, a mark, and the words' slice. -/
def LnCells (w : World) (B : Nat) : List Ln → List Value → Prop
  | [], us => us = []
  | l :: ls, us => ∃ A us', us = .int .i64 l.no :: .bool l.head :: .slice (some ⟨A, 0, none⟩) l.words.length l.words.length :: us' ∧
      w.ownsRow B 9 1 (.slice (some ⟨A, 0, none⟩) l.words.length l.words.length) l.words.length (l.words.map Value.string) ∧ LnCells w B ls us'

/-- The slice v holds these lines, in memory from block B on. -/
def Lns (w : World) (B : Nat) (v : Value) (ls : List Ln) : Prop := ∃ us, w.ownsRow B 31 3 v ls.length us ∧ LnCells w B ls us

section
variable {w w' : World} {B : Nat}
theorem LnCells.keep {ls : List Ln} {us : List Value} (h : LnCells w B ls us) (hk : KeepT 9 w w') : LnCells w' B ls us := by
  induction ls generalizing us with
  | nil => exact h
  | cons l ls ih =>
    obtain ⟨A, us', h1, h2, h3⟩ := h
    exact ⟨A, us', h1, own_keepT h2 hk, ih h3⟩
theorem LnCells.mono {B' : Nat} {ls : List Ln} {us : List Value} (h : LnCells w B ls us) (hB : B' ≤ B) : LnCells w B' ls us := by
  induction ls generalizing us with
  | nil => exact h
  | cons l ls ih =>
    obtain ⟨A, us', h1, h2, h3⟩ := h
    exact ⟨A, us', h1, own_mono h2 hB, ih h3⟩
theorem LnCells.snoc {ls : List Ln} {us : List Value} (h : LnCells w B ls us) {l : Ln} {A : Nat}
    (ho : w.ownsRow B 9 1 (.slice (some ⟨A, 0, none⟩) l.words.length l.words.length) l.words.length (l.words.map Value.string)) :
    LnCells w B (ls ++ [l]) (us ++ [.int .i64 l.no, .bool l.head, .slice (some ⟨A, 0, none⟩) l.words.length l.words.length]) := by
  induction ls generalizing us with
  | nil => rw [show us = [] from h]; exact ⟨A, [], rfl, ho, rfl⟩
  | cons l' ls ih =>
    obtain ⟨A', us', h1, h2, h3⟩ := h
    subst h1
    exact ⟨A', _, rfl, h2, ih h3⟩
theorem Lns.nil (w : World) (B : Nat) : Lns w B (.slice none 0 0) [] := ⟨[], World.ownsRow_nil _ _ _ _, rfl⟩
theorem Lns.keep {v : Value} {ls : List Ln} (h : Lns w B v ls) (h1 : KeepT 9 w w') (h2 : KeepT 31 w w') : Lns w' B v ls := by
  obtain ⟨us, a, b⟩ := h
  exact ⟨us, own_keepT a h2, b.keep h1⟩
theorem Lns.mono {v : Value} {ls : List Ln} {B' : Nat} (h : Lns w B v ls) (hB : B' ≤ B) : Lns w B' v ls := by
  obtain ⟨us, a, b⟩ := h
  exact ⟨us, own_mono a hB, b.mono hB⟩

/-- One line more. -/
theorem Lns.add {w' W1 : World} {v v1 : Value} {ls : List Ln} {us : List Value} {l : Ln} {A C : Nat} {o : Obj}
    (hus : w.ownsRow B 31 3 v ls.length us) (hc : LnCells w B ls us) (k9 : KeepT 9 w w') (k31 : KeepT 31 w w')
    (how : w'.ownsRow C 9 1 (.slice (some ⟨A, 0, none⟩) l.words.length l.words.length) l.words.length (l.words.map Value.string)) (hC : B ≤ C)
    (hown1 : W1.ownsRow B 31 3 v1 (ls.length + 1) (us ++ [.int .i64 l.no, .bool l.head, .slice (some ⟨A, 0, none⟩) l.words.length l.words.length]))
    (hg : (w'.alloc o).grownBy W1 v.ownBlock) : Lns W1 B v1 (ls ++ [l]) := by
  have hus' := (own_keepT hus k31).alloc o
  have kg : KeepT 9 (w'.alloc o) W1 := own_keepT_of hus' hg (by decide)
  have ka : KeepT 9 w' W1 := (KeepT.alloc w' o).trans kg
  exact ⟨_, by rw [List.length_append]; exact hown1, (hc.keep (k9.trans ka)).snoc (own_mono (own_keepT how ka) hC)⟩
end

theorem goFields_size {t : ByteArray} (h : wordsOf t ≠ []) : 0 < t.size := by
  rcases Nat.eq_zero_or_pos t.size with h0 | h0
  · exfalso; apply h
    unfold wordsOf Lib.goFieldsP Lib.spansOfP
    rw [h0]; rfl
  · exact h0
theorem headD_eq {l : List UInt8} (h : 0 < l.length) : l.headD 0 = l[0] := by
  cases l with
  | nil => simp at h
  | cons a b => rfl
theorem first_eq (t : ByteArray) (h : 0 < t.size) : first t = (t[0]'h).toNat := by
  unfold first
  rw [headD_eq (by rw [size_toList]; exact h)]; rfl
end Go.Proofs.Ytlkhiiadoggneaa
