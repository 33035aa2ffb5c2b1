/-
  No cell of these rows narrows 'for every input' (looked for: loops, veiled, ifaces, maps, wideKeys, modest, calm, conditions, laid).
  DERIVED. THE GIVEN ROWS OF THIS SEAT. 6 by the template 'for every input the law returns true; each argument reads behind the call as it read before'; 0 by the template 'total and deterministic' (their statements: YtaajajngnmaggaaGreatTotals.lean).
  GIVEN WITH THE SEED: the statements are not yours to turn. If you find one false, say at which input.
  Laid BY PROGRAM, IN A SANDBOX (cutbox-rows.mjs): the forced cells as the released guide's own fill.sh prints them over the translation 9a4908862dd18799… (all of the seat's roots in one cut). By AI agents, Wed Nov 11 2026. No macro, syntax, notation, axiom, sorry.
-/
import Derived.Test.YtaajajngnmaggaaGreatChecked
import GoSem.Claim
import GoSem.ClaimJoined
import GoSem.ClaimMapViews
import Derived.JoinedTies
import Derived.KernelRfl
namespace Go.Proofs.YtaajajngnmaggaaGreat
/- THE CELL 'sum', in the pinned program and in every row, IS THE sha256 OF THE DUMP (.gsa) THAT YtaajajngnmaggaaGreatProg.lean LOADS. Nothing in Lean hashes anything: it is a label: what it is worth is what the hold of that sum in a sandbox is worth. -/
noncomputable def Tryz.pinned : Pinned := { name := "ytaajajngnmaggaagreat", sum := "9a4908862dd18799622d94134ec980785703823df3f484cf4b26393bccc96936", checked := Tryz.checked }
namespace Rows
def none {H : Type} : Left H := { results := [], args := [] }

/-- 'cutwaterlaw16.PropagTightens': WHATEVER THE INPUT: true; the input reads as it did. -/
def propagTightensSpec : ChangeSpec := { name := "propagTightens", fn := fun _ => fun
  | [d1, d2, d3] => { results := [.lit (.bool true)], args := [d1, d2, d3] }
  | _ => none }
def propagTightensRow : OpenClaim := { program := "ytaajajngnmaggaagreat", sum := "9a4908862dd18799622d94134ec980785703823df3f484cf4b26393bccc96936", func := "cutwater/cutwaterlaw16.PropagTightens", spec := "propagTightens", inPlace := ["math/bits.Add64", "math/bits.Sub64"], unfollowed := true, recurses := true, named := ["math/bits.divideError", "math/bits.overflowError"], apart := false }
def PropagTightensSaid : Prop := propagTightensRow.holds Tryz.pinned (OpenSpec.ofChange propagTightensSpec)

/-- ITS FALSE NEIGHBOUR: 'it returns false'. Refute it at one input. -/
def propagTightensWrong : ChangeSpec := { name := "propagTightens", fn := fun _ => fun
  | [d1, d2, d3] => { results := [.lit (.bool false)], args := [d1, d2, d3] }
  | _ => none }
def PropagTightensWrongFalsely : Prop := propagTightensRow.holds Tryz.pinned (OpenSpec.ofChange propagTightensWrong)

/-- 'cutwaterlaw16.PropagProves': WHATEVER THE INPUT: true; the input reads as it did. -/
def propagProvesSpec : ChangeSpec := { name := "propagProves", fn := fun _ => fun
  | [d1, d2, d3] => { results := [.lit (.bool true)], args := [d1, d2, d3] }
  | _ => none }
def propagProvesRow : OpenClaim := { program := "ytaajajngnmaggaagreat", sum := "9a4908862dd18799622d94134ec980785703823df3f484cf4b26393bccc96936", func := "cutwater/cutwaterlaw16.PropagProves", spec := "propagProves", inPlace := ["math/bits.Add64", "math/bits.Sub64"], unfollowed := true, recurses := true, named := ["math/bits.divideError", "math/bits.overflowError"], apart := false }
def PropagProvesSaid : Prop := propagProvesRow.holds Tryz.pinned (OpenSpec.ofChange propagProvesSpec)

/-- ITS FALSE NEIGHBOUR: 'it returns false'. Refute it at one input. -/
def propagProvesWrong : ChangeSpec := { name := "propagProves", fn := fun _ => fun
  | [d1, d2, d3] => { results := [.lit (.bool false)], args := [d1, d2, d3] }
  | _ => none }
def PropagProvesWrongFalsely : Prop := propagProvesRow.holds Tryz.pinned (OpenSpec.ofChange propagProvesWrong)

/-- 'cutwaterlaw16.PropagMore': WHATEVER THE INPUT: true; the input reads as it did. -/
def propagMoreSpec : ChangeSpec := { name := "propagMore", fn := fun _ => fun
  | [d1, d2, d3] => { results := [.lit (.bool true)], args := [d1, d2, d3] }
  | _ => none }
def propagMoreRow : OpenClaim := { program := "ytaajajngnmaggaagreat", sum := "9a4908862dd18799622d94134ec980785703823df3f484cf4b26393bccc96936", func := "cutwater/cutwaterlaw16.PropagMore", spec := "propagMore", inPlace := ["math/bits.Add64", "math/bits.Sub64"], unfollowed := true, recurses := true, named := ["math/bits.divideError", "math/bits.overflowError"], apart := false }
def PropagMoreSaid : Prop := propagMoreRow.holds Tryz.pinned (OpenSpec.ofChange propagMoreSpec)

/-- ITS FALSE NEIGHBOUR: 'it returns false'. Refute it at one input. -/
def propagMoreWrong : ChangeSpec := { name := "propagMore", fn := fun _ => fun
  | [d1, d2, d3] => { results := [.lit (.bool false)], args := [d1, d2, d3] }
  | _ => none }
def PropagMoreWrongFalsely : Prop := propagMoreRow.holds Tryz.pinned (OpenSpec.ofChange propagMoreWrong)

/-- 'cutwaterlaw13.RatioLeaves': WHATEVER THE INPUT: true; the input reads as it did. -/
def ratioLeavesSpec : ChangeSpec := { name := "ratioLeaves", fn := fun _ => fun
  | [d1, d2, d3] => { results := [.lit (.bool true)], args := [d1, d2, d3] }
  | _ => none }
def ratioLeavesRow : OpenClaim := { program := "ytaajajngnmaggaagreat", sum := "9a4908862dd18799622d94134ec980785703823df3f484cf4b26393bccc96936", func := "cutwater/cutwaterlaw13.RatioLeaves", spec := "ratioLeaves", inPlace := ["math/bits.Add64", "math/bits.Sub64"], unfollowed := true, recurses := true, named := ["math/bits.divideError", "math/bits.overflowError"], apart := false }
def RatioLeavesSaid : Prop := ratioLeavesRow.holds Tryz.pinned (OpenSpec.ofChange ratioLeavesSpec)

/-- ITS FALSE NEIGHBOUR: 'it returns false'. Refute it at one input. -/
def ratioLeavesWrong : ChangeSpec := { name := "ratioLeaves", fn := fun _ => fun
  | [d1, d2, d3] => { results := [.lit (.bool false)], args := [d1, d2, d3] }
  | _ => none }
def RatioLeavesWrongFalsely : Prop := ratioLeavesRow.holds Tryz.pinned (OpenSpec.ofChange ratioLeavesWrong)

/-- 'cutwaterlaw13.RatioEnters': WHATEVER THE INPUT: true; the input reads as it did. -/
def ratioEntersSpec : ChangeSpec := { name := "ratioEnters", fn := fun _ => fun
  | [d1, d2, d3] => { results := [.lit (.bool true)], args := [d1, d2, d3] }
  | _ => none }
def ratioEntersRow : OpenClaim := { program := "ytaajajngnmaggaagreat", sum := "9a4908862dd18799622d94134ec980785703823df3f484cf4b26393bccc96936", func := "cutwater/cutwaterlaw13.RatioEnters", spec := "ratioEnters", inPlace := ["math/bits.Add64", "math/bits.Sub64"], unfollowed := true, recurses := true, named := ["math/bits.divideError", "math/bits.overflowError"], apart := false }
def RatioEntersSaid : Prop := ratioEntersRow.holds Tryz.pinned (OpenSpec.ofChange ratioEntersSpec)

/-- ITS FALSE NEIGHBOUR: 'it returns false'. Refute it at one input. -/
def ratioEntersWrong : ChangeSpec := { name := "ratioEnters", fn := fun _ => fun
  | [d1, d2, d3] => { results := [.lit (.bool false)], args := [d1, d2, d3] }
  | _ => none }
def RatioEntersWrongFalsely : Prop := ratioEntersRow.holds Tryz.pinned (OpenSpec.ofChange ratioEntersWrong)

/-- 'cutwaterlaw13.RatioTurns': WHATEVER THE INPUT: true; the input reads as it did. -/
def ratioTurnsSpec : ChangeSpec := { name := "ratioTurns", fn := fun _ => fun
  | [d1, d2, d3] => { results := [.lit (.bool true)], args := [d1, d2, d3] }
  | _ => none }
def ratioTurnsRow : OpenClaim := { program := "ytaajajngnmaggaagreat", sum := "9a4908862dd18799622d94134ec980785703823df3f484cf4b26393bccc96936", func := "cutwater/cutwaterlaw13.RatioTurns", spec := "ratioTurns", inPlace := ["math/bits.Add64", "math/bits.Sub64"], unfollowed := true, recurses := true, named := ["math/bits.divideError", "math/bits.overflowError"], apart := false }
def RatioTurnsSaid : Prop := ratioTurnsRow.holds Tryz.pinned (OpenSpec.ofChange ratioTurnsSpec)

/-- ITS FALSE NEIGHBOUR: 'it returns false'. Refute it at one input. -/
def ratioTurnsWrong : ChangeSpec := { name := "ratioTurns", fn := fun _ => fun
  | [d1, d2, d3] => { results := [.lit (.bool false)], args := [d1, d2, d3] }
  | _ => none }
def RatioTurnsWrongFalsely : Prop := ratioTurnsRow.holds Tryz.pinned (OpenSpec.ofChange ratioTurnsWrong)

/- THE SECOND FORM. 'bulk': how many values and letters a reading holds, each counted each time it is reached (what is shared counts as often as it is met; a slice's spare places count too). A statement '..UptoSaid' is the law's where the arguments, and the package variables that the reading takes, are together of bulk at most 1048576: NARROWER than '..Said'. Prove '..Said' where nothing that the law and all that it calls make is longer than what came in: it says more and counts as full. Else prove '..UptoSaid'. A law counts once. -/
mutual
def uptoBulk {H : Type} : DataW H → Nat
  | .lit (.string bytes) => bytes.length + 1
  | .lit _ => 1
  | .nil => 1
  | .ptr d => uptoBulk d + 1
  | .slice elems spare => uptoBulkAll elems + uptoBulkAll spare + 1
  | .agg parts => uptoBulkAll parts + 1
  | .iface _ d => uptoBulk d + 1
  | .map entries => uptoBulkEntries entries + 1
  | .held _ => 1
def uptoBulkAll {H : Type} : List (DataW H) → Nat
  | [] => 0
  | d :: r => uptoBulk d + uptoBulkAll r
def uptoBulkEntries {H : Type} : List (Lit × DataW H) → Nat
  | [] => 0
  | x :: r => uptoBulkEntry x + uptoBulkEntries r
def uptoBulkEntry {H : Type} : Lit × DataW H → Nat
  | (.string bytes, d) => bytes.length + uptoBulk d + 1
  | (_, d) => uptoBulk d + 1
 end
def uptoSmall : (H : Type) → List (DataW H) → Bool := fun _ ds => decide (uptoBulkAll ds ≤ 1048576)
def OpenSpec.upto (s : _root_.Go.ChangeSpec) : _root_.Go.OpenSpec := { _root_.Go.OpenSpec.ofChange s with cond := some uptoSmall }

/-- 'cutwaterlaw16.PropagTightens', WHERE WHAT IT READS IS OF BULK AT MOST 1048576: true; the input reads as it did. -/
def propagTightensUptoRow : OpenClaim := { program := "ytaajajngnmaggaagreat", sum := "9a4908862dd18799622d94134ec980785703823df3f484cf4b26393bccc96936", func := "cutwater/cutwaterlaw16.PropagTightens", spec := "propagTightens", inPlace := ["math/bits.Add64", "math/bits.Sub64"], unfollowed := true, recurses := true, named := ["math/bits.divideError", "math/bits.overflowError"], apart := false, narrowed := true }
def PropagTightensUptoSaid : Prop := propagTightensUptoRow.holds Tryz.pinned (OpenSpec.upto propagTightensSpec)

/-- 'cutwaterlaw16.PropagProves', WHERE WHAT IT READS IS OF BULK AT MOST 1048576: true; the input reads as it did. -/
def propagProvesUptoRow : OpenClaim := { program := "ytaajajngnmaggaagreat", sum := "9a4908862dd18799622d94134ec980785703823df3f484cf4b26393bccc96936", func := "cutwater/cutwaterlaw16.PropagProves", spec := "propagProves", inPlace := ["math/bits.Add64", "math/bits.Sub64"], unfollowed := true, recurses := true, named := ["math/bits.divideError", "math/bits.overflowError"], apart := false, narrowed := true }
def PropagProvesUptoSaid : Prop := propagProvesUptoRow.holds Tryz.pinned (OpenSpec.upto propagProvesSpec)

/-- 'cutwaterlaw16.PropagMore', WHERE WHAT IT READS IS OF BULK AT MOST 1048576: true; the input reads as it did. -/
def propagMoreUptoRow : OpenClaim := { program := "ytaajajngnmaggaagreat", sum := "9a4908862dd18799622d94134ec980785703823df3f484cf4b26393bccc96936", func := "cutwater/cutwaterlaw16.PropagMore", spec := "propagMore", inPlace := ["math/bits.Add64", "math/bits.Sub64"], unfollowed := true, recurses := true, named := ["math/bits.divideError", "math/bits.overflowError"], apart := false, narrowed := true }
def PropagMoreUptoSaid : Prop := propagMoreUptoRow.holds Tryz.pinned (OpenSpec.upto propagMoreSpec)

/-- 'cutwaterlaw13.RatioLeaves', WHERE WHAT IT READS IS OF BULK AT MOST 1048576: true; the input reads as it did. -/
def ratioLeavesUptoRow : OpenClaim := { program := "ytaajajngnmaggaagreat", sum := "9a4908862dd18799622d94134ec980785703823df3f484cf4b26393bccc96936", func := "cutwater/cutwaterlaw13.RatioLeaves", spec := "ratioLeaves", inPlace := ["math/bits.Add64", "math/bits.Sub64"], unfollowed := true, recurses := true, named := ["math/bits.divideError", "math/bits.overflowError"], apart := false, narrowed := true }
def RatioLeavesUptoSaid : Prop := ratioLeavesUptoRow.holds Tryz.pinned (OpenSpec.upto ratioLeavesSpec)

/-- 'cutwaterlaw13.RatioEnters', WHERE WHAT IT READS IS OF BULK AT MOST 1048576: true; the input reads as it did. -/
def ratioEntersUptoRow : OpenClaim := { program := "ytaajajngnmaggaagreat", sum := "9a4908862dd18799622d94134ec980785703823df3f484cf4b26393bccc96936", func := "cutwater/cutwaterlaw13.RatioEnters", spec := "ratioEnters", inPlace := ["math/bits.Add64", "math/bits.Sub64"], unfollowed := true, recurses := true, named := ["math/bits.divideError", "math/bits.overflowError"], apart := false, narrowed := true }
def RatioEntersUptoSaid : Prop := ratioEntersUptoRow.holds Tryz.pinned (OpenSpec.upto ratioEntersSpec)

/-- 'cutwaterlaw13.RatioTurns', WHERE WHAT IT READS IS OF BULK AT MOST 1048576: true; the input reads as it did. -/
def ratioTurnsUptoRow : OpenClaim := { program := "ytaajajngnmaggaagreat", sum := "9a4908862dd18799622d94134ec980785703823df3f484cf4b26393bccc96936", func := "cutwater/cutwaterlaw13.RatioTurns", spec := "ratioTurns", inPlace := ["math/bits.Add64", "math/bits.Sub64"], unfollowed := true, recurses := true, named := ["math/bits.divideError", "math/bits.overflowError"], apart := false, narrowed := true }
def RatioTurnsUptoSaid : Prop := ratioTurnsUptoRow.holds Tryz.pinned (OpenSpec.upto ratioTurnsSpec)

end Rows
end Go.Proofs.YtaajajngnmaggaaGreat
