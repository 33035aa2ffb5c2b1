/-
  Numbers as they are handed in: which are great; words that are written over.
-/
import Derived.Test.YtgbfpimdnmmfpaaGreatDoorCopy
import Derived.Test.YtgbfpimdnmmfpaaGreatDoorZ1
namespace Go.Proofs.YtgbfpimdnmmfpaaGreatDoor
open Go Go.RowKit Go.Proofs Pl
set_option linter.unusedVariables false

/-- v has the sign b and the words xs, in whatever form. -/
def Zl (w : World) (v : Value) (b : Bool) (xs : List Nat) : Prop := ∃ s, v = .agg #[.bool b, s] ∧ Nl w s xs
section
variable {w w' : World} {v : Value} {b : Bool} {xs : List Nat} {L : Nat} {z : Int}
theorem Zl.keep (h : Zl w v b xs) (hb : Below w.heap.size w w') : Zl w' v b xs := by
  obtain ⟨s, h1, h2⟩ := h
  exact ⟨s, h1, h2.keep hb⟩
theorem Zl.zn (h : Zl w v b xs) (hl : xs.length ≤ L) : Zn w L v (sg b (val WB xs)) := by
  obtain ⟨s, h1, h2⟩ := h
  exact ⟨b, s, _, h1, ⟨xs, h2, hl, rfl⟩, rfl⟩
theorem Zo.zl (h : Zo w v z) : Zl w v (decide (z < 0)) (dg WB z.natAbs) := h
theorem Zl.parts (h : Zl w v b xs) : ∃ A n c, v = .agg #[.bool b, .slice A n c] ∧ n = xs.length ∧ Hid (Zl w (.agg #[.bool b, .slice A n c]) b xs) := by
  have h' := h
  obtain ⟨s, rfl, h2⟩ := h
  obtain ⟨A, c, rfl, -⟩ := h2
  exact ⟨A, _, c, rfl, rfl, h'⟩
end
set_option maxRecDepth 100000 in
theorem big_no {w : World} {a c : Value} {p q : Bool} {xs ys : List Nat} (ha : Zl w a p xs) (hc : Zl w c q ys) (h1 : xs.length ≤ 12) (h2 : ys.length ≤ 12) :
    Calls Tryz.prog 13 #[a, c] w fun e w' => e = .returned (.bool false) ∧ Below w.heap.size w w' := by
  obtain ⟨A, n, k, rfl, rfl, -⟩ := ha.parts
  obtain ⟨B, m, l, rfl, rfl, -⟩ := hc.parts
  obtain ⟨n, hn⟩ : ∃ n, n = xs.length := ⟨_, rfl⟩
  obtain ⟨m, hm⟩ : ∃ m, m = ys.length := ⟨_, rfl⟩
  rw [← hn] at h1 ⊢
  rw [← hm] at h2 ⊢
  have i1 : decide ((12 : Int) < (n : Int)) = false := decide_eq_false (by omega)
  have i2 : decide ((12 : Int) < (m : Int)) = false := decide_eq_false (by omega)
  clear ha hc hn hm h1 h2
  go_enter Tryz.func13, Tryz.ntmps13
  go_wp2_with fail
  go_ret
  exact ⟨rfl, by go_grown⟩
set_option maxRecDepth 100000 in
theorem big_yes {w : World} {a c : Value} {p q : Bool} {xs ys : List Nat} (ha : Zl w a p xs) (hc : Zl w c q ys) (h : ¬ (xs.length ≤ 12 ∧ ys.length ≤ 12)) :
    Calls Tryz.prog 13 #[a, c] w fun e w' => e = .returned (.bool true) ∧ Below w.heap.size w w' := by
  obtain ⟨A, n, k, rfl, rfl, -⟩ := ha.parts
  obtain ⟨B, m, l, rfl, rfl, -⟩ := hc.parts
  obtain ⟨n, hn⟩ : ∃ n, n = xs.length := ⟨_, rfl⟩
  obtain ⟨m, hm⟩ : ∃ m, m = ys.length := ⟨_, rfl⟩
  rw [← hn, ← hm] at h
  rw [← hn, ← hm]
  have i1 : decide ((12 : Int) < (n : Int)) = true ∨ decide ((12 : Int) < (n : Int)) = false ∧ decide ((12 : Int) < (m : Int)) = true := by
    by_cases hn : 12 < n
    · exact .inl (decide_eq_true (by omega))
    · exact .inr ⟨decide_eq_false (by omega), decide_eq_true (by omega)⟩
  clear ha hc hn hm h
  rcases i1 with i1 | ⟨i1, i2⟩
  all_goals
    go_enter Tryz.func13, Tryz.ntmps13
    go_wp2_with fail
    go_ret
    exact ⟨rfl, by go_grown⟩
set_option maxRecDepth 100000 in
/-- Words are written over: nothing else turns. -/
theorem spoil_own {B : Nat} {p : Bool} {v : Value} {xs : List Nat} {w : World} (hO : Ow w B v xs) :
    Calls Tryz.prog 21 #[.agg #[.bool p, v]] w fun e w' => e = .returned (.tuple #[]) ∧ w.grownBy w' v.ownBlock := by
  obtain ⟨A, c, rfl, h1, h2⟩ := hO.slice
  obtain ⟨n, hn⟩ : ∃ n, n = xs.length := ⟨_, rfl⟩
  have hO' := hO
  rw [← hn] at hO' h1 ⊢
  have hnm : n ≤ 9223372036854775807 := by unfold maxLen at h2; omega
  have hlo : ∀ k, (Value.slice A n c).ownBlock = some k → k < w.heap.size := fun k hk => (hO'.lt k hk).2
  have HO := Lib.hid hO'
  have HN := Lib.hid hn
  have HL := Lib.hid hlo
  clear hO hO' hn h1 h2 hlo
  go_enter Tryz.func21, Tryz.ntmps21
  go_wp2_with fail
  go_loopw [6] (fun i wr => ∃ k : Nat, i = .int .i64 (k : Int) ∧ k ≤ n ∧ Hid ((∃ ys : List Nat, ys.length = n ∧ Ow wr B (.slice A n c) ys) ∧ w.grownBy wr (Value.slice A n c).ownBlock ∧ Bx 24 wr w.heap.size (.bool p) (.slice A n c))) (fun i _ => n - (intOf i).toNat)
  case atStart => exact ⟨0, rfl, by omega, ⟨xs, HN.out.symm, HO.out.keep (below_al w _)⟩, World.grownBy_alloc w _ _, Bx.new _ w _ _⟩
  case round =>
    obtain ⟨k, rfl, hk, hS⟩ := hrel
    by_cases hlt : k < n
    · obtain ⟨⟨ys, hy, hOy⟩, hg, hX⟩ := hS.out
      obtain ⟨c0, c1, -, -⟩ := hX.facts
      obtain ⟨g, rfl, -, -, hgs, -, -, hcs, hfr⟩ := hOy.at_ (j := k) (by omega)
      have hm := hcs k _ (atD_some (by omega))
      have hf := hfr k
      have h4 := hOy.set_ hy.symm (j := k) (x := 238) (by rw [WB_eq]; decide)
      have h5 : (Value.slice (some ⟨g, 0, none⟩) n c).ownBlock = some g := rfl
      have h7 := HL.out g h5
      rw [h5] at hg
      have h6 := grown_set hg k (.int .u64 238)
      have h8 := hX.other (p := ⟨g, k, none⟩) (by show g ≠ _; omega) (.int .u64 238)
      have K := Lib.hid (And.intro h4 (And.intro h6 (And.intro hy (And.intro h5 h8))))
      clear hOy hg hcs hfr h4 h6 hy h5 hS hgs hX h7 h8 HL
      go_wp2_with fail
      go_roundw
      case rel => exact ⟨k + 1, by go_num, by omega, ⟨_, by rw [List.length_set]; exact K.out.2.2.1, K.out.1⟩, by rw [K.out.2.2.2.1]; exact K.out.2.1, K.out.2.2.2.2⟩
      case measure => simp [intOf]; omega
    · obtain ⟨c0, c1, -, -⟩ := hS.out.2.2.facts
      go_wp2_with fail
      go_end0
      exact ⟨rfl, hS.out.2.1⟩
/-- Blocks from lo up to hi may have been written over; the others stand. -/
def Hit (w w' : World) (lo hi : Nat) : Prop := Below lo w w' ∧ ∀ k, hi ≤ k → k < w.heap.size → w'.heap[k]? = w.heap[k]?
section
variable {w w' : World} {lo hi B : Nat} {v : Value} {xs : List Nat}
theorem Hit.ow (h : Hit w w' lo hi) (ho : Ow w B v xs) (hB : hi ≤ B) : Ow w' B v xs := by
  refine ⟨ho.1, ?_⟩
  obtain ⟨h1, h2⟩ := ho.2
  refine ⟨h1, ?_⟩
  rcases h2 with h2 | ⟨g, cap, cur, hv, hB', hh, r⟩
  · exact Or.inl h2
  · exact Or.inr ⟨g, cap, cur, hv, hB', (h.2 g (by omega) (heap_lt hh)).trans hh, r⟩
theorem Hit.bx {t : TypeId} {g : Nat} {a b : Value} (h : Hit w w' lo hi) (X : Bx t w g a b) (hg : g < lo ∨ hi ≤ g) : Bx t w' g a b := by
  rcases hg with hg | hg
  · exact (h.1.block g hg).trans X
  · exact (h.2 g hg X.lt).trans X
end
/-- A number that is new, written over: what lay below it, and what was made since, stands. -/
theorem spoil_z {w wp wk : World} {v : Value} {z : Int} (h : Zs w wp v z) (hk : Below wp.heap.size wp wk) :
    Calls Tryz.prog 21 #[v] wk fun e w' => e = .returned (.tuple #[]) ∧ Hit wk w' w.heap.size wp.heap.size := by
  obtain ⟨s, rfl, hs⟩ := h
  refine (spoil_own (hs.1.keep hk)).mono ?_
  rintro e w' ⟨he, hg⟩
  have hlt := hs.1.lt
  refine ⟨he, (Below.refl _ _).grown hg (below_trans hs.2 hk).size (fun j hj => (hlt j hj).1), fun k h1 h2 => hg.block k h2 (fun e => ?_)⟩
  have := (hlt k e.symm).2
  omega
end Go.Proofs.YtgbfpimdnmmfpaaGreatDoor
