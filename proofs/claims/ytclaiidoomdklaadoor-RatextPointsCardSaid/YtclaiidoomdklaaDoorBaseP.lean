/-
  What every card of this seat asks: the table out of the row's list, arguments as numbers, a start that fits.
-/
import Derived.Test.YtclaiidoomdklaaDoorCards
import Derived.Test.YtclaiidoomdklaaDoorTie
import Derived.Test.YtclaiidoomdklaaDoorA8
import Derived.ProofKit
import Derived.OpenShut
import Derived.ShutString
import Derived.Deep.DeepHandedRow
import Derived.Lib.LaidTab
import Derived.Lay
import Derived.LaidMore
import Derived.Stop.LaidErr
import Derived.SevenTiedAt
namespace Go.Proofs.YtclaiidoomdklaaDoor
open Go Go.ChangeShapes Go.WideShapes Go.ChangeAt Go.RowKit Pl
set_option linter.unusedVariables false

theorem own : ownKnob Tryd.prog.godebug = none := by kernel_rfl
theorem laidOut : laidOutB Tryd.prog = true := by kernel_rfl
/-- The list that all rows of this seat bear. -/
def laidAll : List (String × DataW Unit) := Rows.ratextPointsRow.laid
theorem g_tab : Tryd.prog.globalNamed "internal/strconv.uint64pow10" = some 3 := by kernel_rfl
theorem g_tab_type : (Tryd.prog.globals[3]?).map (·.type) = some 126 := by kernel_rfl
theorem cells_tab : Tryd.prog.cellsOf 126 = 20 := by kernel_rfl
theorem cells_word : Tryd.prog.cellsOf 42 = 1 := by kernel_rfl
theorem tab_of_laid {W : World} (h : laidMetH Tryd.prog laidAll W) : Tab W := by
  rw [MakeChecks.laidMetH_plain _ _ _ (by kernel_rfl)] at h
  exact Lib.tabIs_of_head g_tab g_tab_type Tryd.underlying126 Tryd.underlying42 cells_word cells_tab (laidMet.tail (laidMet.tail h))
theorem lay_fits (os : Os) : (World.holding Tryd.prog os ⟨#[], #[], []⟩).layFits Tryd.prog laidAll [] = true := by kernel_rfl
theorem lay_ifaces (os : Os) : (World.holding Tryd.prog os ⟨#[], #[], []⟩).layIfaces Tryd.prog laidAll (World.laidAll Tryd.prog os laidAll) = true := by kernel_rfl
theorem laid_met (os : Os) (args : Array Value) : laidMet Tryd.prog laidAll ((World.laidAll Tryd.prog os laidAll).forCall (fun _ _ => 0) ⟨#[], args, []⟩).memory :=
  laidMet_laidAll args (lay_fits os) (lay_ifaces os)

section
variable {H : Type} {enc : TypeId × Value → H} {W W' : World} {base : Nat} {v : Value} {d : DataW H} {p : List MemPlace}
theorem word_of {n : Int} (h : (Lit.int .u64 n).wf = true) : 0 ≤ n ∧ n.toNat < WB := by
  have := bounds_u64 h
  rw [WB_eq]
  omega

set_option maxRecDepth 1000000 in
theorem words_arg (hval : Value.okWide Tryd.prog W .any base 23 v) (h : DataW.Trod enc Tryd.prog W 0 (fun _ => true) true 23 v d p) :
    ∃ xs, Nl W v xs ∧ ∃ (s e : List (DataW H)), (xs.length = 0 ∨ d = .slice s e ∧ xs.length = s.length) := by
  obtain ⟨a0, len, cap, rfl⟩ := okWide_slice Tryd.underlying23 hval
  obtain ⟨fuel, hf⟩ := h
  rcases open_ints Tryd.underlying23 Tryd.underlying42 cells_word hf with ⟨hcs, hx⟩ | ⟨a, len', cap', zs, hcs, _, hl, hm, hz, hx, hcell, hwz⟩
  · have h1 : Value.slice a0 len cap = .slice none 0 0 := by simpa [Value.cells] using hcs
    rw [h1]
    exact ⟨[], nl_nil _, [], [], .inl rfl⟩
  · have h1 : Value.slice a0 len cap = .slice (some a) len' cap' := by simpa [Value.cells] using hcs
    injection h1 with h1 h2 h3
    subst h1; subst h2; subst h3
    simp only [if_true] at hz
    simp only [Prod.mk.injEq] at hx
    have hw := fun n hn => word_of (hwz n hn)
    have hlt : ((zs.take len).map Int.toNat).length = len := by simp; omega
    refine ⟨(zs.take len).map Int.toNat, ⟨some a, cap, by rw [hlt], ⟨?_, ?_⟩, by rw [hlt]; exact hl, hm, by simp⟩, _, _, .inr ⟨hx.1, by rw [hlt]; simp [lits]; omega⟩⟩
    · intro x hx
      obtain ⟨n, hn, rfl⟩ := List.mem_map.1 hx
      exact (hw n (List.mem_of_mem_take hn)).2
    · rcases Nat.eq_zero_or_pos zs.length with h0 | hp
      · left; rw [List.eq_nil_of_length_eq_zero h0]; simp
      · obtain ⟨b, off, rfl, hc⟩ := ints_at hcell hp
        refine .inr ⟨b, off, rfl, fun j x hj => ?_⟩
        rw [List.getElem?_map, List.getElem?_take] at hj
        split at hj
        · cases hzj : zs[j]? with
          | none => rw [hzj] at hj; cases hj
          | some z =>
            rw [hzj] at hj
            injection hj with hj
            have hjl := (List.getElem?_eq_some_iff.1 hzj).1
            rw [hc j hjl, List.getD_eq_getElem?_getD, hzj]
            have := hw z (List.mem_of_getElem? hzj)
            subst hj
            rw [Option.getD_some, Int.toNat_of_nonneg this.1]
        · cases hj
/-- Behind a call that left what was there as it was, an argument reads as it did. -/
theorem stays {t : TypeId} (hr : Tryd.prog.readableRec t = true) (hrow : t < Tryd.prog.types.size) (h : DataW.Trod enc Tryd.prog W 0 (fun _ => true) true t v d p) (hb : Below W.heap.size W W') (hlt : ∀ x ∈ p, x.block < W.heap.size) {sp : Nat → Bool} (hsp : ∀ x ∈ p, sp x.block = true) :
    DataW.Trod enc Tryd.prog W' 0 sp true t v d p :=
  WideElems.Trod_stays laidOut hr hrow h (fun x hx => hb.same (hlt x hx)) hsp
end
end Go.Proofs.YtclaiidoomdklaaDoor
