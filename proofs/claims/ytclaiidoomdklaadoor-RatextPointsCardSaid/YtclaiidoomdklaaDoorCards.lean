/-
  DERIVED. GIVEN WITH THE SEED: THE CARDS: each row of YtclaiidoomdklaaDoorRows.lean that lists a variable, with what it lists TIED to the program's text (the seventh form; the later family's looks); each row that meets fmt, with fmt's text TOLD by the authors' own Lean function (tested against real Go, not proved from fmt's source: count such statements apart). THE CARD IS WHAT COUNTS. Prove the row's statement (the work); the ties are given (YtclaiidoomdklaaDoorTie.lean); close each card by the builder's one call (the guide's Derived/Test/ToyasCard.lean, 'card_holds'). Laid BY PROGRAM, IN A SANDBOX (cutbox-door.mjs). By AI agents, Wed Nov 11 2026. No macro, syntax, notation, axiom, sorry.
-/
import Derived.Test.YtclaiidoomdklaaDoorRows
import GoSem.ClaimSeven
namespace Go.Proofs.YtclaiidoomdklaaDoor
namespace Rows

/-- THE TIED CARD OF 'cutwaterlaw04.RatextPoints'. -/
def ratextPointsCard : Claim7 := { stood := { row := ratextPointsRow, standIns := [], harness := (true, "c328d179739cb2c04e892a9e41a2ccc5fda9d0ddd4b5305150ab973cafdffe2b"), looks := false }, kinds := [], alts := [], laidByText := true, laidKinds := [.data, .data, .data, .data, .pinned], laidTests := true, laidLooks := .later }
def RatextPointsCardSaid : Prop := Claim7.holds Tryd.pinned (.plain (OpenSpec.ofChange ratextPointsSpec)) ratextPointsCard

/-- THE SECOND FORM's CARD OF 'cutwaterlaw04.RatextPoints'. -/
def ratextPointsUptoCard : Claim7 := { stood := { row := ratextPointsUptoRow, standIns := [], harness := (true, "c328d179739cb2c04e892a9e41a2ccc5fda9d0ddd4b5305150ab973cafdffe2b"), looks := false }, kinds := [], alts := [], laidByText := true, laidKinds := [.data, .data, .data, .data, .pinned], laidTests := true, laidLooks := .later }
def RatextPointsUptoCardSaid : Prop := Claim7.holds Tryd.pinned (.plain (OpenSpec.upto ratextPointsSpec)) ratextPointsUptoCard
end Rows
end Go.Proofs.YtclaiidoomdklaaDoor
