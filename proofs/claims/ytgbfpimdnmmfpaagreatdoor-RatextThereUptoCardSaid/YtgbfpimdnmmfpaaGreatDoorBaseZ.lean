/-
  What every card of this seat asks: the table out of the row's list, arguments as numbers, a start that fits.
-/
import Derived.Test.YtgbfpimdnmmfpaaGreatDoorCards
import Derived.Test.YtgbfpimdnmmfpaaGreatDoorTie
import Derived.Test.YtgbfpimdnmmfpaaGreatDoorZ8
import Derived.ChangeArms
import Derived.Lib.SmallJoins
import Derived.ProofKit
import Derived.OpenShut
import Derived.ShutString
import Derived.Deep.DeepHandedRow
import Derived.Lib.LaidTab
import Derived.Lay
import Derived.LaidMore
import Derived.Stop.LaidErr
import Derived.SevenTiedAt
namespace Go.Proofs.YtgbfpimdnmmfpaaGreatDoor
open Go Go.ChangeShapes Go.WideShapes Go.ChangeAt Go.RowKit Pl
set_option linter.unusedVariables false

theorem own : ownKnob Tryz.prog.godebug = none := by kernel_rfl
theorem laidOut : laidOutB Tryz.prog = true := by kernel_rfl
/-- The list that all rows of this seat bear. -/
def laidAll : List (String × DataW Unit) := Rows.zintSumsRow.laid
theorem g_tab : Tryz.prog.globalNamed "internal/strconv.uint64pow10" = some 2 := by kernel_rfl
theorem g_tab_type : (Tryz.prog.globals[2]?).map (·.type) = some 178 := by kernel_rfl
theorem cells_tab : Tryz.prog.cellsOf 178 = 20 := by kernel_rfl
theorem cells_word : Tryz.prog.cellsOf 84 = 1 := by kernel_rfl
theorem tab_of_laid {W : World} (h : laidMetH Tryz.prog laidAll W) : Tab W := by
  rw [MakeChecks.laidMetH_plain _ _ _ (by kernel_rfl)] at h
  exact Lib.tabIs_of_head g_tab g_tab_type Tryz.underlying178 Tryz.underlying84 cells_word cells_tab (laidMet.tail (laidMet.tail h))
theorem lay_fits (os : Os) : (World.holding Tryz.prog os ⟨#[], #[], []⟩).layFits Tryz.prog laidAll [] = true := by kernel_rfl
theorem lay_ifaces (os : Os) : (World.holding Tryz.prog os ⟨#[], #[], []⟩).layIfaces Tryz.prog laidAll (World.laidAll Tryz.prog os laidAll) = true := by kernel_rfl
theorem laid_met (os : Os) (args : Array Value) : laidMet Tryz.prog laidAll ((World.laidAll Tryz.prog os laidAll).forCall (fun _ _ => 0) ⟨#[], args, []⟩).memory :=
  laidMet_laidAll args (lay_fits os) (lay_ifaces os)

section
variable {H : Type} {enc : TypeId × Value → H} {W W' : World} {base : Nat} {v : Value} {d : DataW H} {p : List MemPlace}
theorem word_of {n : Int} (h : (Lit.int .u64 n).wf = true) : 0 ≤ n ∧ n.toNat < WB := by
  have := bounds_u64 h
  rw [WB_eq]
  omega

theorem lits_len {k : IntKind} (l : List Int) : (lits (H := H) k l).length = l.length := by simp [lits]
theorem bulk_len (l : List (DataW H)) : l.length ≤ Rows.uptoBulkAll l := by
  induction l with
  | nil => simp
  | cons x r ih =>
    have : 1 ≤ Rows.uptoBulk x := by
      cases x with
      | lit l => cases l <;> simp [Rows.uptoBulk]
      | _ => simp [Rows.uptoBulk]
    simp only [Rows.uptoBulkAll, List.length_cons]; omega
set_option maxRecDepth 1000000 in
/-- Words that are handed in, in a field. -/
theorem words_of {fuel : Nat} {v : Value} {y : DataW H × List MemPlace} (hf : DataW.trod enc Tryz.prog W 0 (fun _ => true) true fuel 22 [v] = some y) : ∃ xs, Nl W v xs ∧ xs.length ≤ Rows.uptoBulk y.1 := by
  rcases open_ints Tryz.underlying22 Tryz.underlying84 cells_word hf with ⟨hcs, hx⟩ | ⟨a, len', cap', zs, hcs, _, hl, hm, hz, hx, hcell, hwz⟩
  · obtain rfl : v = .slice none 0 0 := by simpa using hcs
    exact ⟨[], nl_nil _, Nat.zero_le _⟩
  · obtain rfl : v = .slice (some a) len' cap' := by simpa using hcs
    simp only [if_true] at hz
    have hw := fun n hn => word_of (hwz n hn)
    have hlt : ((zs.take len').map Int.toNat).length = len' := by simp; omega
    refine ⟨(zs.take len').map Int.toNat, ⟨some a, cap', by rw [hlt], ⟨?_, ?_⟩, by rw [hlt]; exact hl, hm, by simp⟩, ?_⟩
    · intro x hx
      obtain ⟨n, hn, rfl⟩ := List.mem_map.1 hx
      exact (hw n (List.mem_of_mem_take hn)).2
    · rcases Nat.eq_zero_or_pos zs.length with h0 | hp
      · left; rw [List.eq_nil_of_length_eq_zero h0]; simp
      · obtain ⟨b, off, rfl, hc⟩ := ints_at hcell hp
        refine .inr ⟨b, off, rfl, fun j x hj => ?_⟩
        rw [List.getElem?_map, List.getElem?_take] at hj
        split at hj
        · cases hzj : zs[j]? with
          | none => rw [hzj] at hj; cases hj
          | some z =>
            rw [hzj] at hj
            injection hj with hj
            have hjl := (List.getElem?_eq_some_iff.1 hzj).1
            rw [hc j hjl, List.getD_eq_getElem?_getD, hzj]
            have := hw z (List.mem_of_getElem? hzj)
            subst hj
            rw [Option.getD_some, Int.toNat_of_nonneg this.1]
        · cases hj
    · have h1 := bulk_len (lits (H := H) .u64 (zs.take len'))
      rw [lits_len] at h1
      rw [hx, List.length_map]
      simp only [Rows.uptoBulk]
      omega
set_option maxRecDepth 1000000 in
/-- A number that is handed in. -/
theorem int_arg (hval : Value.okWide Tryz.prog W .any base 24 v) (h : DataW.Trod enc Tryz.prog W 0 (fun _ => true) true 24 v d p) : ∃ b xs, Zl W v b xs ∧ xs.length ≤ Rows.uptoBulk d := by
  obtain ⟨c0, c1, y0, y1, m, rfl, rfl, rfl, hy0, hy1⟩ := Go.Joins.open_agg2 Tryz.underlying24 (by kernel_rfl) (by kernel_rfl) hval h
  obtain ⟨b, e0, -⟩ := DataW.trod_bool Tryz.underlying4 hy0
  obtain rfl : c0 = .bool b := by simpa using e0
  obtain ⟨xs, hx, hb⟩ := words_of hy1
  refine ⟨b, xs, ⟨_, rfl, hx⟩, ?_⟩
  simp only [Rows.uptoBulk, Rows.uptoBulkAll]
  omega
theorem bulk_mem {l : List (DataW H)} {d : DataW H} (h : d ∈ l) (hk : Rows.uptoSmall H l = true) : Rows.uptoBulk d ≤ 1048576 := by
  have hb : Rows.uptoBulkAll l ≤ 1048576 := by simpa [Rows.uptoSmall] using hk
  clear hk
  induction l with
  | nil => cases h
  | cons x r ih =>
    simp only [Rows.uptoBulkAll] at hb
    cases List.mem_cons.1 h with
    | inl e => subst e; omega
    | inr e => exact ih e (by omega)
/-- Behind a call that left what was there as it was, an argument reads as it did. -/
theorem stays {t : TypeId} (hr : Tryz.prog.readableRec t = true) (hrow : t < Tryz.prog.types.size) (h : DataW.Trod enc Tryz.prog W 0 (fun _ => true) true t v d p) (hb : Below W.heap.size W W') (hlt : ∀ x ∈ p, x.block < W.heap.size) {sp : Nat → Bool} (hsp : ∀ x ∈ p, sp x.block = true) :
    DataW.Trod enc Tryz.prog W' 0 sp true t v d p :=
  WideElems.Trod_stays laidOut hr hrow h (fun x hx => hb.same (hlt x hx)) hsp
end
end Go.Proofs.YtgbfpimdnmmfpaaGreatDoor
