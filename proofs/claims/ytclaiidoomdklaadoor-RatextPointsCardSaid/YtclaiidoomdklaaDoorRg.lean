/-
  Regions that draw their order, walked by the kit's laws with their side conditions paid by themselves.
-/
import Derived.Test.YtclaiidoomdklaaDoorA1
import Derived.Deep.RegionHeld3
namespace Go.Proofs.YtclaiidoomdklaaDoor
open Go Go.RowKit Go.Proofs
section
variable {P : Program} {md : Region.Mode} {ops : Array Oper} {Q : Exit → Act → World → Prop} {S : World → Prop} {oi : Oper} {v : Value} {fuel : Nat} {listed : Array Bool} {a : Act} {w : World} {rs : List Nat} {i : Nat}
/-- Operation i is taken first. -/
theorem rgTake (i : Nat) (hS : S w) (h : wpAnyH P md ops Q S fuel (listed.setIfInBounds i true) (a.put oi.dst v) w)
    (hi : ops[i]? = some oi := by simp only [List.getElem?_toArray, List.getElem?_cons_succ, List.getElem?_cons_zero]; rfl)
    (hs : Region.noSelect ops = true := by kernel_rfl) (hf : Region.free md ops listed i = true := by kernel_rfl) (hr : (Region.ready md ops listed).contains i = true := by kernel_rfl)
    (hw : Region.wanted oi (yielded ops a.tmps) = true := by rfl)
    (hy : ∀ w, S w → (execOp a.eval oi).run P w = .ok (.value v) w := by (intro w hSw; (try dsimp only at hSw); (first | (go_simp; done) | (go_simp; with_reducible rfl) | (go_simp; rw [if_neg (by omega)]))))
    (hQ : ∀ c a w, Q (.panic c) (a.put oi.dst v) w → Q (.panic c) a w := by exact fun _ _ _ h => h) : wpAnyH P md ops Q S (fuel + 1) listed a w :=
  wpAnyH_take hi hs hf hr hQ (.inl ⟨hw, hy⟩) hS h
/-- Operation i is not wanted. -/
theorem rgSkip (i : Nat) (hS : S w) (h : wpAnyH P md ops Q S fuel (listed.setIfInBounds i true) (a.put oi.dst undef) w)
    (hi : ops[i]? = some oi := by simp only [List.getElem?_toArray, List.getElem?_cons_succ, List.getElem?_cons_zero]; rfl)
    (hs : Region.noSelect ops = true := by kernel_rfl) (hf : Region.free md ops listed i = true := by kernel_rfl) (hr : (Region.ready md ops listed).contains i = true := by kernel_rfl)
    (hw : Region.wanted oi (yielded ops a.tmps) = false := by rfl)
    (hQ : ∀ c a w, Q (.panic c) (a.put oi.dst undef) w → Q (.panic c) a w := by exact fun _ _ _ h => h) : wpAnyH P md ops Q S (fuel + 1) listed a w :=
  wpAnyH_take hi hs hf hr hQ (.inr ⟨hw, rfl⟩) hS h
/-- These may come up. -/
theorem rgReady (rs : List Nat) (h : AllReadyH P md ops Q S fuel listed a w rs) (hr : Region.ready md ops listed = rs := by kernel_rfl) (hne : rs ≠ [] := by simp) : wpAnyH P md ops Q S (fuel + 1) listed a w :=
  wpAnyH_ready hr hne h
theorem rgOne (h : ∀ K' : Act → World → Prop, Shut (∀ a w, S w → (S w → wpAnyH P md ops Q S fuel (listed.setIfInBounds i true) a w) → K' a w) → if Region.wanted oi (yielded ops a.tmps) = true then Oper.wp P oi a w K' Q else K' (a.put oi.dst undef) w)
    (hs : AllReadyH P md ops Q S fuel listed a w rs) (ho : ops[i]? = some oi := by simp only [List.getElem?_toArray, List.getElem?_cons_succ, List.getElem?_cons_zero]; rfl) : AllReadyH P md ops Q S fuel listed a w (i :: rs) :=
  AllReadyH.cons ho h hs
theorem rgNil : AllReadyH P md ops Q S fuel listed a w [] := AllReadyH.nil
/-- A region's walk with its parts named: the goal's predicate as a letter. -/
theorem wpAnyH_ctx {n : Nat} {l : Array Bool} (h : ∀ F : Nat → Array Bool → Act → World → Prop, (∀ n l a w, F n l a w ↔ wpAnyH P md ops Q S n l a w) → F n l a w) : wpAnyH P md ops Q S n l a w :=
  h _ (fun _ _ _ _ => Iff.rfl)
end
theorem act_ctx {G : Act → Prop} {a : Act} (h : ∀ a0, a0 = a → G a0) : G a := h a rfl
end Go.Proofs.YtclaiidoomdklaaDoor
