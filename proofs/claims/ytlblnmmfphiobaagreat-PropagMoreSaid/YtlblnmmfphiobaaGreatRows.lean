/-
  No cell of these rows narrows 'for every input' (looked for: loops, veiled, ifaces, maps, wideKeys, modest, calm, conditions, laid).
  DERIVED. THE GIVEN ROWS OF THIS SEAT. 9 by the template 'for every input the law returns true; each argument reads behind the call as it read before'; 0 by the template 'total and deterministic' (their statements: YtlblnmmfphiobaaGreatTotals.lean).
  GIVEN WITH THE SEED: the statements are not yours to turn. If you find one false, say at which input.
  Laid BY PROGRAM, IN A SANDBOX (cutbox-rows.mjs): the forced cells as the released guide's own fill.sh prints them over the translation 3d9d0a3a4f8e2ecf… (all of the seat's roots in one cut). By AI agents, Wed Nov 11 2026. No macro, syntax, notation, axiom, sorry.
-/
import Derived.Test.YtlblnmmfphiobaaGreatChecked
import GoSem.Claim
import GoSem.ClaimJoined
import GoSem.ClaimMapViews
import Derived.JoinedTies
import Derived.KernelRfl
namespace Go.Proofs.YtlblnmmfphiobaaGreat
/- THE CELL 'sum', in the pinned program and in every row, IS THE sha256 OF THE DUMP (.gsa) THAT YtlblnmmfphiobaaGreatProg.lean LOADS. Nothing in Lean hashes anything: it is a label: what it is worth is what the hold of that sum in a sandbox is worth. -/
noncomputable def Tryz.pinned : Pinned := { name := "ytlblnmmfphiobaagreat", sum := "3d9d0a3a4f8e2ecf3c2ff42e899a78413f30053a592dd65c75eafcd691d5702e", checked := Tryz.checked }
namespace Rows
def none {H : Type} : Left H := { results := [], args := [] }

/-- 'cutwaterlaw16.PropagTightens': WHATEVER THE INPUT: true; the input reads as it did. -/
def propagTightensSpec : ChangeSpec := { name := "propagTightens", fn := fun _ => fun
  | [d1, d2, d3] => { results := [.lit (.bool true)], args := [d1, d2, d3] }
  | _ => none }
def propagTightensRow : OpenClaim := { program := "ytlblnmmfphiobaagreat", sum := "3d9d0a3a4f8e2ecf3c2ff42e899a78413f30053a592dd65c75eafcd691d5702e", func := "cutwater/cutwaterlaw16.PropagTightens", spec := "propagTightens", inPlace := ["math/bits.Add64", "math/bits.Sub64"], unfollowed := true, recurses := true, named := ["math/bits.divideError", "math/bits.overflowError"], apart := false }
def PropagTightensSaid : Prop := propagTightensRow.holds Tryz.pinned (OpenSpec.ofChange propagTightensSpec)

/-- ITS FALSE NEIGHBOUR: 'it returns false'. Refute it at one input. -/
def propagTightensWrong : ChangeSpec := { name := "propagTightens", fn := fun _ => fun
  | [d1, d2, d3] => { results := [.lit (.bool false)], args := [d1, d2, d3] }
  | _ => none }
def PropagTightensWrongFalsely : Prop := propagTightensRow.holds Tryz.pinned (OpenSpec.ofChange propagTightensWrong)

/-- 'cutwaterlaw16.PropagProves': WHATEVER THE INPUT: true; the input reads as it did. -/
def propagProvesSpec : ChangeSpec := { name := "propagProves", fn := fun _ => fun
  | [d1, d2, d3] => { results := [.lit (.bool true)], args := [d1, d2, d3] }
  | _ => none }
def propagProvesRow : OpenClaim := { program := "ytlblnmmfphiobaagreat", sum := "3d9d0a3a4f8e2ecf3c2ff42e899a78413f30053a592dd65c75eafcd691d5702e", func := "cutwater/cutwaterlaw16.PropagProves", spec := "propagProves", inPlace := ["math/bits.Add64", "math/bits.Sub64"], unfollowed := true, recurses := true, named := ["math/bits.divideError", "math/bits.overflowError"], apart := false }
def PropagProvesSaid : Prop := propagProvesRow.holds Tryz.pinned (OpenSpec.ofChange propagProvesSpec)

/-- ITS FALSE NEIGHBOUR: 'it returns false'. Refute it at one input. -/
def propagProvesWrong : ChangeSpec := { name := "propagProves", fn := fun _ => fun
  | [d1, d2, d3] => { results := [.lit (.bool false)], args := [d1, d2, d3] }
  | _ => none }
def PropagProvesWrongFalsely : Prop := propagProvesRow.holds Tryz.pinned (OpenSpec.ofChange propagProvesWrong)

/-- 'cutwaterlaw16.PropagMore': WHATEVER THE INPUT: true; the input reads as it did. -/
def propagMoreSpec : ChangeSpec := { name := "propagMore", fn := fun _ => fun
  | [d1, d2, d3] => { results := [.lit (.bool true)], args := [d1, d2, d3] }
  | _ => none }
def propagMoreRow : OpenClaim := { program := "ytlblnmmfphiobaagreat", sum := "3d9d0a3a4f8e2ecf3c2ff42e899a78413f30053a592dd65c75eafcd691d5702e", func := "cutwater/cutwaterlaw16.PropagMore", spec := "propagMore", inPlace := ["math/bits.Add64", "math/bits.Sub64"], unfollowed := true, recurses := true, named := ["math/bits.divideError", "math/bits.overflowError"], apart := false }
def PropagMoreSaid : Prop := propagMoreRow.holds Tryz.pinned (OpenSpec.ofChange propagMoreSpec)

/-- ITS FALSE NEIGHBOUR: 'it returns false'. Refute it at one input. -/
def propagMoreWrong : ChangeSpec := { name := "propagMore", fn := fun _ => fun
  | [d1, d2, d3] => { results := [.lit (.bool false)], args := [d1, d2, d3] }
  | _ => none }
def PropagMoreWrongFalsely : Prop := propagMoreRow.holds Tryz.pinned (OpenSpec.ofChange propagMoreWrong)

/-- 'cutwaterlaw07.LuScales': WHATEVER THE INPUT: true; the input reads as it did. -/
def luScalesSpec : ChangeSpec := { name := "luScales", fn := fun _ => fun
  | [d1, d2, d3] => { results := [.lit (.bool true)], args := [d1, d2, d3] }
  | _ => none }
def luScalesRow : OpenClaim := { program := "ytlblnmmfphiobaagreat", sum := "3d9d0a3a4f8e2ecf3c2ff42e899a78413f30053a592dd65c75eafcd691d5702e", func := "cutwater/cutwaterlaw07.LuScales", spec := "luScales", inPlace := ["math/bits.Add64", "math/bits.Sub64"], unfollowed := true, recurses := true, named := ["math/bits.divideError", "math/bits.overflowError"], apart := false }
def LuScalesSaid : Prop := luScalesRow.holds Tryz.pinned (OpenSpec.ofChange luScalesSpec)

/-- ITS FALSE NEIGHBOUR: 'it returns false'. Refute it at one input. -/
def luScalesWrong : ChangeSpec := { name := "luScales", fn := fun _ => fun
  | [d1, d2, d3] => { results := [.lit (.bool false)], args := [d1, d2, d3] }
  | _ => none }
def LuScalesWrongFalsely : Prop := luScalesRow.holds Tryz.pinned (OpenSpec.ofChange luScalesWrong)

/-- 'cutwaterlaw12.ShapeMakes': WHATEVER THE INPUT: true; the input reads as it did. -/
def shapeMakesSpec : ChangeSpec := { name := "shapeMakes", fn := fun _ => fun
  | [d] => { results := [.lit (.bool true)], args := [d] }
  | _ => none }
def shapeMakesRow : OpenClaim := { program := "ytlblnmmfphiobaagreat", sum := "3d9d0a3a4f8e2ecf3c2ff42e899a78413f30053a592dd65c75eafcd691d5702e", func := "cutwater/cutwaterlaw12.ShapeMakes", spec := "shapeMakes", inPlace := ["math/bits.Add64", "math/bits.Sub64"], unfollowed := true, recurses := true, named := ["math/bits.divideError", "math/bits.overflowError"], apart := false }
def ShapeMakesSaid : Prop := shapeMakesRow.holds Tryz.pinned (OpenSpec.ofChange shapeMakesSpec)

/-- ITS FALSE NEIGHBOUR: 'it returns false'. Refute it at one input. -/
def shapeMakesWrong : ChangeSpec := { name := "shapeMakes", fn := fun _ => fun
  | [d] => { results := [.lit (.bool false)], args := [d] }
  | _ => none }
def ShapeMakesWrongFalsely : Prop := shapeMakesRow.holds Tryz.pinned (OpenSpec.ofChange shapeMakesWrong)

/-- 'cutwaterlaw12.ShapeLines': WHATEVER THE INPUT: true; the input reads as it did. -/
def shapeLinesSpec : ChangeSpec := { name := "shapeLines", fn := fun _ => fun
  | [d] => { results := [.lit (.bool true)], args := [d] }
  | _ => none }
def shapeLinesRow : OpenClaim := { program := "ytlblnmmfphiobaagreat", sum := "3d9d0a3a4f8e2ecf3c2ff42e899a78413f30053a592dd65c75eafcd691d5702e", func := "cutwater/cutwaterlaw12.ShapeLines", spec := "shapeLines", inPlace := ["math/bits.Add64", "math/bits.Sub64"], unfollowed := true, recurses := true, named := ["math/bits.divideError", "math/bits.overflowError"], apart := false }
def ShapeLinesSaid : Prop := shapeLinesRow.holds Tryz.pinned (OpenSpec.ofChange shapeLinesSpec)

/-- ITS FALSE NEIGHBOUR: 'it returns false'. Refute it at one input. -/
def shapeLinesWrong : ChangeSpec := { name := "shapeLines", fn := fun _ => fun
  | [d] => { results := [.lit (.bool false)], args := [d] }
  | _ => none }
def ShapeLinesWrongFalsely : Prop := shapeLinesRow.holds Tryz.pinned (OpenSpec.ofChange shapeLinesWrong)

/-- 'cutwaterlaw12.ShapeFits': WHATEVER THE INPUT: true; the input reads as it did. -/
def shapeFitsSpec : ChangeSpec := { name := "shapeFits", fn := fun _ => fun
  | [d1, d2] => { results := [.lit (.bool true)], args := [d1, d2] }
  | _ => none }
def shapeFitsRow : OpenClaim := { program := "ytlblnmmfphiobaagreat", sum := "3d9d0a3a4f8e2ecf3c2ff42e899a78413f30053a592dd65c75eafcd691d5702e", func := "cutwater/cutwaterlaw12.ShapeFits", spec := "shapeFits", inPlace := ["math/bits.Add64", "math/bits.Sub64"], unfollowed := true, recurses := true, named := ["math/bits.divideError", "math/bits.overflowError"], apart := false }
def ShapeFitsSaid : Prop := shapeFitsRow.holds Tryz.pinned (OpenSpec.ofChange shapeFitsSpec)

/-- ITS FALSE NEIGHBOUR: 'it returns false'. Refute it at one input. -/
def shapeFitsWrong : ChangeSpec := { name := "shapeFits", fn := fun _ => fun
  | [d1, d2] => { results := [.lit (.bool false)], args := [d1, d2] }
  | _ => none }
def ShapeFitsWrongFalsely : Prop := shapeFitsRow.holds Tryz.pinned (OpenSpec.ofChange shapeFitsWrong)

/-- 'cutwaterlaw12.ShapeBounds': WHATEVER THE INPUT: true; the input reads as it did. -/
def shapeBoundsSpec : ChangeSpec := { name := "shapeBounds", fn := fun _ => fun
  | [d1, d2, d3] => { results := [.lit (.bool true)], args := [d1, d2, d3] }
  | _ => none }
def shapeBoundsRow : OpenClaim := { program := "ytlblnmmfphiobaagreat", sum := "3d9d0a3a4f8e2ecf3c2ff42e899a78413f30053a592dd65c75eafcd691d5702e", func := "cutwater/cutwaterlaw12.ShapeBounds", spec := "shapeBounds", inPlace := ["math/bits.Add64", "math/bits.Sub64"], unfollowed := true, recurses := true, named := ["math/bits.divideError", "math/bits.overflowError"], apart := false }
def ShapeBoundsSaid : Prop := shapeBoundsRow.holds Tryz.pinned (OpenSpec.ofChange shapeBoundsSpec)

/-- ITS FALSE NEIGHBOUR: 'it returns false'. Refute it at one input. -/
def shapeBoundsWrong : ChangeSpec := { name := "shapeBounds", fn := fun _ => fun
  | [d1, d2, d3] => { results := [.lit (.bool false)], args := [d1, d2, d3] }
  | _ => none }
def ShapeBoundsWrongFalsely : Prop := shapeBoundsRow.holds Tryz.pinned (OpenSpec.ofChange shapeBoundsWrong)

/-- 'cutwaterlaw12.ShapeGrows': WHATEVER THE INPUT: true; the input reads as it did. -/
def shapeGrowsSpec : ChangeSpec := { name := "shapeGrows", fn := fun _ => fun
  | [d1, d2, d3] => { results := [.lit (.bool true)], args := [d1, d2, d3] }
  | _ => none }
def shapeGrowsRow : OpenClaim := { program := "ytlblnmmfphiobaagreat", sum := "3d9d0a3a4f8e2ecf3c2ff42e899a78413f30053a592dd65c75eafcd691d5702e", func := "cutwater/cutwaterlaw12.ShapeGrows", spec := "shapeGrows", inPlace := ["math/bits.Add64", "math/bits.Sub64"], unfollowed := true, recurses := true, named := ["math/bits.divideError", "math/bits.overflowError"], apart := false }
def ShapeGrowsSaid : Prop := shapeGrowsRow.holds Tryz.pinned (OpenSpec.ofChange shapeGrowsSpec)

/-- ITS FALSE NEIGHBOUR: 'it returns false'. Refute it at one input. -/
def shapeGrowsWrong : ChangeSpec := { name := "shapeGrows", fn := fun _ => fun
  | [d1, d2, d3] => { results := [.lit (.bool false)], args := [d1, d2, d3] }
  | _ => none }
def ShapeGrowsWrongFalsely : Prop := shapeGrowsRow.holds Tryz.pinned (OpenSpec.ofChange shapeGrowsWrong)

/- THE SECOND FORM. 'bulk': how many values and letters a reading holds, each counted each time it is reached (what is shared counts as often as it is met; a slice's spare places count too). A statement '..UptoSaid' is the law's where the arguments, and the package variables that the reading takes, are together of bulk at most 1048576: NARROWER than '..Said'. Prove '..Said' where nothing that the law and all that it calls make is longer than what came in: it says more and counts as full. Else prove '..UptoSaid'. A law counts once. -/
mutual
def uptoBulk {H : Type} : DataW H → Nat
  | .lit (.string bytes) => bytes.length + 1
  | .lit _ => 1
  | .nil => 1
  | .ptr d => uptoBulk d + 1
  | .slice elems spare => uptoBulkAll elems + uptoBulkAll spare + 1
  | .agg parts => uptoBulkAll parts + 1
  | .iface _ d => uptoBulk d + 1
  | .map entries => uptoBulkEntries entries + 1
  | .held _ => 1
def uptoBulkAll {H : Type} : List (DataW H) → Nat
  | [] => 0
  | d :: r => uptoBulk d + uptoBulkAll r
def uptoBulkEntries {H : Type} : List (Lit × DataW H) → Nat
  | [] => 0
  | x :: r => uptoBulkEntry x + uptoBulkEntries r
def uptoBulkEntry {H : Type} : Lit × DataW H → Nat
  | (.string bytes, d) => bytes.length + uptoBulk d + 1
  | (_, d) => uptoBulk d + 1
 end
def uptoSmall : (H : Type) → List (DataW H) → Bool := fun _ ds => decide (uptoBulkAll ds ≤ 1048576)
def OpenSpec.upto (s : _root_.Go.ChangeSpec) : _root_.Go.OpenSpec := { _root_.Go.OpenSpec.ofChange s with cond := some uptoSmall }

/-- 'cutwaterlaw16.PropagTightens', WHERE WHAT IT READS IS OF BULK AT MOST 1048576: true; the input reads as it did. -/
def propagTightensUptoRow : OpenClaim := { program := "ytlblnmmfphiobaagreat", sum := "3d9d0a3a4f8e2ecf3c2ff42e899a78413f30053a592dd65c75eafcd691d5702e", func := "cutwater/cutwaterlaw16.PropagTightens", spec := "propagTightens", inPlace := ["math/bits.Add64", "math/bits.Sub64"], unfollowed := true, recurses := true, named := ["math/bits.divideError", "math/bits.overflowError"], apart := false, narrowed := true }
def PropagTightensUptoSaid : Prop := propagTightensUptoRow.holds Tryz.pinned (OpenSpec.upto propagTightensSpec)

/-- 'cutwaterlaw16.PropagProves', WHERE WHAT IT READS IS OF BULK AT MOST 1048576: true; the input reads as it did. -/
def propagProvesUptoRow : OpenClaim := { program := "ytlblnmmfphiobaagreat", sum := "3d9d0a3a4f8e2ecf3c2ff42e899a78413f30053a592dd65c75eafcd691d5702e", func := "cutwater/cutwaterlaw16.PropagProves", spec := "propagProves", inPlace := ["math/bits.Add64", "math/bits.Sub64"], unfollowed := true, recurses := true, named := ["math/bits.divideError", "math/bits.overflowError"], apart := false, narrowed := true }
def PropagProvesUptoSaid : Prop := propagProvesUptoRow.holds Tryz.pinned (OpenSpec.upto propagProvesSpec)

/-- 'cutwaterlaw16.PropagMore', WHERE WHAT IT READS IS OF BULK AT MOST 1048576: true; the input reads as it did. -/
def propagMoreUptoRow : OpenClaim := { program := "ytlblnmmfphiobaagreat", sum := "3d9d0a3a4f8e2ecf3c2ff42e899a78413f30053a592dd65c75eafcd691d5702e", func := "cutwater/cutwaterlaw16.PropagMore", spec := "propagMore", inPlace := ["math/bits.Add64", "math/bits.Sub64"], unfollowed := true, recurses := true, named := ["math/bits.divideError", "math/bits.overflowError"], apart := false, narrowed := true }
def PropagMoreUptoSaid : Prop := propagMoreUptoRow.holds Tryz.pinned (OpenSpec.upto propagMoreSpec)

/-- 'cutwaterlaw07.LuScales', WHERE WHAT IT READS IS OF BULK AT MOST 1048576: true; the input reads as it did. -/
def luScalesUptoRow : OpenClaim := { program := "ytlblnmmfphiobaagreat", sum := "3d9d0a3a4f8e2ecf3c2ff42e899a78413f30053a592dd65c75eafcd691d5702e", func := "cutwater/cutwaterlaw07.LuScales", spec := "luScales", inPlace := ["math/bits.Add64", "math/bits.Sub64"], unfollowed := true, recurses := true, named := ["math/bits.divideError", "math/bits.overflowError"], apart := false, narrowed := true }
def LuScalesUptoSaid : Prop := luScalesUptoRow.holds Tryz.pinned (OpenSpec.upto luScalesSpec)

/-- 'cutwaterlaw12.ShapeMakes', WHERE WHAT IT READS IS OF BULK AT MOST 1048576: true; the input reads as it did. -/
def shapeMakesUptoRow : OpenClaim := { program := "ytlblnmmfphiobaagreat", sum := "3d9d0a3a4f8e2ecf3c2ff42e899a78413f30053a592dd65c75eafcd691d5702e", func := "cutwater/cutwaterlaw12.ShapeMakes", spec := "shapeMakes", inPlace := ["math/bits.Add64", "math/bits.Sub64"], unfollowed := true, recurses := true, named := ["math/bits.divideError", "math/bits.overflowError"], apart := false, narrowed := true }
def ShapeMakesUptoSaid : Prop := shapeMakesUptoRow.holds Tryz.pinned (OpenSpec.upto shapeMakesSpec)

/-- 'cutwaterlaw12.ShapeLines', WHERE WHAT IT READS IS OF BULK AT MOST 1048576: true; the input reads as it did. -/
def shapeLinesUptoRow : OpenClaim := { program := "ytlblnmmfphiobaagreat", sum := "3d9d0a3a4f8e2ecf3c2ff42e899a78413f30053a592dd65c75eafcd691d5702e", func := "cutwater/cutwaterlaw12.ShapeLines", spec := "shapeLines", inPlace := ["math/bits.Add64", "math/bits.Sub64"], unfollowed := true, recurses := true, named := ["math/bits.divideError", "math/bits.overflowError"], apart := false, narrowed := true }
def ShapeLinesUptoSaid : Prop := shapeLinesUptoRow.holds Tryz.pinned (OpenSpec.upto shapeLinesSpec)

/-- 'cutwaterlaw12.ShapeFits', WHERE WHAT IT READS IS OF BULK AT MOST 1048576: true; the input reads as it did. -/
def shapeFitsUptoRow : OpenClaim := { program := "ytlblnmmfphiobaagreat", sum := "3d9d0a3a4f8e2ecf3c2ff42e899a78413f30053a592dd65c75eafcd691d5702e", func := "cutwater/cutwaterlaw12.ShapeFits", spec := "shapeFits", inPlace := ["math/bits.Add64", "math/bits.Sub64"], unfollowed := true, recurses := true, named := ["math/bits.divideError", "math/bits.overflowError"], apart := false, narrowed := true }
def ShapeFitsUptoSaid : Prop := shapeFitsUptoRow.holds Tryz.pinned (OpenSpec.upto shapeFitsSpec)

/-- 'cutwaterlaw12.ShapeBounds', WHERE WHAT IT READS IS OF BULK AT MOST 1048576: true; the input reads as it did. -/
def shapeBoundsUptoRow : OpenClaim := { program := "ytlblnmmfphiobaagreat", sum := "3d9d0a3a4f8e2ecf3c2ff42e899a78413f30053a592dd65c75eafcd691d5702e", func := "cutwater/cutwaterlaw12.ShapeBounds", spec := "shapeBounds", inPlace := ["math/bits.Add64", "math/bits.Sub64"], unfollowed := true, recurses := true, named := ["math/bits.divideError", "math/bits.overflowError"], apart := false, narrowed := true }
def ShapeBoundsUptoSaid : Prop := shapeBoundsUptoRow.holds Tryz.pinned (OpenSpec.upto shapeBoundsSpec)

/-- 'cutwaterlaw12.ShapeGrows', WHERE WHAT IT READS IS OF BULK AT MOST 1048576: true; the input reads as it did. -/
def shapeGrowsUptoRow : OpenClaim := { program := "ytlblnmmfphiobaagreat", sum := "3d9d0a3a4f8e2ecf3c2ff42e899a78413f30053a592dd65c75eafcd691d5702e", func := "cutwater/cutwaterlaw12.ShapeGrows", spec := "shapeGrows", inPlace := ["math/bits.Add64", "math/bits.Sub64"], unfollowed := true, recurses := true, named := ["math/bits.divideError", "math/bits.overflowError"], apart := false, narrowed := true }
def ShapeGrowsUptoSaid : Prop := shapeGrowsUptoRow.holds Tryz.pinned (OpenSpec.upto shapeGrowsSpec)

end Rows
end Go.Proofs.YtlblnmmfphiobaaGreat
