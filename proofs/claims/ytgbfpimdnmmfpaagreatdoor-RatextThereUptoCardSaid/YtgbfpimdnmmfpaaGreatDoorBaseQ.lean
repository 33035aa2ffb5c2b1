/-
  A fraction that is handed in.
-/
import Derived.Test.YtgbfpimdnmmfpaaGreatDoorBaseZ
import Derived.Test.YtgbfpimdnmmfpaaGreatDoorRA
namespace Go.Proofs.YtgbfpimdnmmfpaaGreatDoor
open Go Go.ChangeShapes Go.WideShapes Go.ChangeAt Go.RowKit Pl
set_option linter.unusedVariables false
section
variable {H : Type} {enc : TypeId × Value → H} {W W' : World} {base : Nat} {v : Value} {d : DataW H} {p : List MemPlace}
set_option maxRecDepth 1000000 in
theorem rat_arg (hval : Value.okWide Tryz.prog W .any base 62 v) (h : DataW.Trod enc Tryz.prog W 0 (fun _ => true) true 62 v d p) : ∃ b xs ds, Ql W v b xs ds ∧ xs.length + ds.length ≤ Rows.uptoBulk d := by
  obtain ⟨cs, rfl, hsz⟩ := okWide_struct Tryz.underlying62 hval
  obtain ⟨c0, c1, c2, rfl⟩ := Go.Joins.array3 (hsz.trans (by kernel_rfl))
  obtain ⟨fuel, hf⟩ := h
  obtain ⟨y0, y1, n, hx, -, h0, h1⟩ := trod_struct2 Tryz.underlying62 hf
  have e0 : Tryz.prog.cellsOf 24 = 2 := by kernel_rfl
  have e1 : Tryz.prog.cellsOf 22 = 1 := by kernel_rfl
  simp only [e0, e1] at h0 h1
  obtain ⟨z0, z1, m, hz, -, g0, g1⟩ := trod_struct2 Tryz.underlying24 h0
  have e2 : Tryz.prog.cellsOf 4 = 1 := by kernel_rfl
  simp only [e1, e2] at g0 g1
  obtain ⟨b, e3, -⟩ := DataW.trod_bool Tryz.underlying4 g0
  obtain rfl : c0 = .bool b := by simpa [Value.cells] using e3
  obtain ⟨xs, hxs, b1⟩ := words_of (v := c1) (by simpa [Value.cells] using g1)
  obtain ⟨ds, hds, b2⟩ := words_of (v := c2) (by simpa [Value.cells] using h1)
  refine ⟨b, xs, ds, ⟨_, _, rfl, hxs, hds⟩, ?_⟩
  simp only [Prod.mk.injEq] at hx
  rw [hx.1]
  have : y0.1 = .agg [z0.1, z1.1] := by rw [hz]
  simp only [Rows.uptoBulk, Rows.uptoBulkAll, this]
  omega
end
end Go.Proofs.YtgbfpimdnmmfpaaGreatDoor
