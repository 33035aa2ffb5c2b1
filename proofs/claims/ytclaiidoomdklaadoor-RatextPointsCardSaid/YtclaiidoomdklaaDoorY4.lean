/-
  Numbers as they are handed in: Same, Copy; the document's Parse.
-/
import Derived.Test.YtclaiidoomdklaaDoorY3
import Derived.Test.YtclaiidoomdklaaDoorZ8
namespace Go.Proofs.YtclaiidoomdklaaDoor
open Go Go.RowKit Go.Proofs Pl
set_option linter.unusedVariables false

section
variable {w w' : World} {v : Value} {b : Bool} {xs : List Nat} {L : Nat} {z : Int}
theorem Zl.put {t : TypeId} {g : Nat} {p0 : Bool} {A0 : Option Addr} {l0 c0 : Nat} (h : Zl w v b xs) (X : Bx t w g (.bool p0) (.slice A0 l0 c0)) (x y : Value) : Zl ((w.setCell ⟨g, 0, none⟩ x).setCell ⟨g, 1, none⟩ y) v b xs := by
  obtain ⟨s, h1, h2⟩ := h
  exact ⟨s, h1, h2.put X x y⟩
end
set_option maxRecDepth 100000 in
theorem same_z {w : World} {a c : Value} {b : Bool} {xs : List Nat} (ha : Zl w a b xs) (hc : Zl w c b xs) :
    Calls Tryd.prog 16 #[a, c] w fun e w' => e = .returned (.bool true) ∧ Below w.heap.size w w' := by
  obtain ⟨s, rfl, hs⟩ := ha
  obtain ⟨t, rfl, ht⟩ := hc
  have hsm := fun W (hb : Below w.heap.size w W) => same_yes (hs.keep hb) (ht.keep hb) rfl
  have HS := Lib.hid hsm
  have hbb : (b == b) = true := by cases b <;> rfl
  clear hsm hs ht
  go_enter Tryd.func16, Tryd.ntmps16
  go_wp2_with fail
  refine (HS.out _ (by go_grown)).mono ?_; rintro e w1 ⟨rfl, hb1⟩
  have HB := Lib.hid (below_trans (below_trans (below_al w _) (below_al _ _)) hb1)
  clear hb1
  go_wp2_with fail
  go_ret
  exact ⟨rfl, HB.out⟩
theorem same_zo {w : World} {a c : Value} {x y : Int} (ha : Zo w a x) (hc : Zo w c y) (h : x = y) :
    Calls Tryd.prog 16 #[a, c] w fun e w' => e = .returned (.bool true) ∧ Below w.heap.size w w' := by
  subst h
  exact same_z ha.zl hc.zl
theorem head_at {s : ByteArray} (h : 0 < s.size) : s.data.toList.head? = some s[0] := by
  have h' : 0 < s.data.toList.length := by rw [← Lib.size_eq]; exact h
  rw [List.head?_eq_getElem?, List.getElem?_eq_getElem h']
  rfl
namespace I
/-- What the document's Parse answers. -/
def ParseD (w : World) (s : ByteArray) (e : Ending) (w' : World) : Prop :=
  ∃ v, e = .returned (.tuple #[v, .int .i64 (parseErr (cutS s).2.data.toList : Int)]) ∧ Zd w' 200 v (readZ s) ∧ Below w.heap.size w w'
theorem readZ_eq (s : ByteArray) : readZ s = sg (cutS s).1 (if parseErr (cutS s).2.data.toList = 0 then decV (cutS s).2.data.toList else 0) := by
  unfold readZ
  split
  · rfl
  · rw [sg_zero]
/-- How a text begins. -/
theorem cut_cases (s : ByteArray) : (∃ h : 0 < s.size, s[0].toNat = 45 ∧ cutS s = (true, s.extract 1 s.size)) ∨ (∃ h : 0 < s.size, s[0].toNat = 43 ∧ cutS s = (false, s.extract 1 s.size)) ∨ (∃ h : 0 < s.size, s[0].toNat ≠ 45 ∧ s[0].toNat ≠ 43 ∧ cutS s = (false, s)) ∨ (s.size = 0 ∧ cutS s = (false, s)) := by
  rcases Nat.eq_zero_or_pos s.size with h0 | h0
  · refine .inr (.inr (.inr ⟨h0, ?_⟩))
    have : s.data.toList = [] := List.eq_nil_of_length_eq_zero (by rw [← Lib.size_eq]; exact h0)
    unfold cutS
    rw [this]
    rfl
  · have hh := head_at h0
    unfold cutS
    rw [hh]
    by_cases h1 : s[0].toNat = 45
    · have e1 : s[0] = 45 := UInt8.toNat_inj.1 h1
      exact .inl ⟨h0, h1, by rw [e1, if_pos rfl]⟩
    · have e1 : ¬ (some s[0] = some 45) := fun e => h1 (by injection e with e; rw [e]; rfl)
      by_cases h2 : s[0].toNat = 43
      · have e2 : s[0] = 43 := UInt8.toNat_inj.1 h2
        exact .inr (.inl ⟨h0, h2, by rw [if_neg e1, e2, if_pos rfl]⟩)
      · have e2 : ¬ (some s[0] = some 43) := fun e => h2 (by injection e with e; rw [e]; rfl)
        exact .inr (.inr (.inl ⟨h0, h1, h2, by rw [if_neg e1, if_neg e2]⟩))
end I
end Go.Proofs.YtclaiidoomdklaaDoor
