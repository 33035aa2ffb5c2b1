/-
  DERIVED. GIVEN WITH THE SEED: THE CARDS: each row of YtgbfpimdnmmfpaaGreatDoorRows.lean that lists a variable, with what it lists TIED to the program's text (the seventh form; the later family's looks); each row that meets fmt, with fmt's text TOLD by the authors' own Lean function (tested against real Go, not proved from fmt's source: count such statements apart). THE CARD IS WHAT COUNTS. Prove the row's statement (the work); the ties are given (YtgbfpimdnmmfpaaGreatDoorTie.lean); close each card by the builder's one call (the guide's Derived/Test/ToyasCard.lean, 'card_holds'). Laid BY PROGRAM, IN A SANDBOX (cutbox-door.mjs). By AI agents, Wed Nov 11 2026. No macro, syntax, notation, axiom, sorry.
-/
import Derived.Test.YtgbfpimdnmmfpaaGreatDoorRows
import GoSem.ClaimSeven
namespace Go.Proofs.YtgbfpimdnmmfpaaGreatDoor
namespace Rows

/-- THE TIED CARD OF 'cutwaterlaw02.ZintFloors'. -/
def zintFloorsCard : Claim7 := { stood := { row := zintFloorsRow, standIns := [], harness := (true, "f82c2b5f4a5d6899af2f1a5f4604a4400604dc7f2bffd3ee86d08ccf5e8bf5d7"), looks := false }, kinds := [], alts := [], laidByText := true, laidKinds := [.data, .data, .data, .data, .pinned], laidTests := true, laidLooks := .later }
def ZintFloorsCardSaid : Prop := Claim7.holds Tryz.pinned (.plain (OpenSpec.ofChange zintFloorsSpec)) zintFloorsCard

/-- THE TIED CARD OF 'cutwaterlaw02.ZintTexts'. -/
def zintTextsCard : Claim7 := { stood := { row := zintTextsRow, standIns := [], harness := (true, "f82c2b5f4a5d6899af2f1a5f4604a4400604dc7f2bffd3ee86d08ccf5e8bf5d7"), looks := false }, kinds := [], alts := [], laidByText := true, laidKinds := [.data, .data, .data, .data, .pinned], laidTests := true, laidLooks := .later }
def ZintTextsCardSaid : Prop := Claim7.holds Tryz.pinned (.plain (OpenSpec.ofChange zintTextsSpec)) zintTextsCard

/-- THE TIED CARD OF 'cutwaterlaw02.ZintSums'. -/
def zintSumsCard : Claim7 := { stood := { row := zintSumsRow, standIns := [], harness := (true, "f82c2b5f4a5d6899af2f1a5f4604a4400604dc7f2bffd3ee86d08ccf5e8bf5d7"), looks := false }, kinds := [], alts := [], laidByText := true, laidKinds := [.data, .data, .data, .data, .pinned], laidTests := true, laidLooks := .later }
def ZintSumsCardSaid : Prop := Claim7.holds Tryz.pinned (.plain (OpenSpec.ofChange zintSumsSpec)) zintSumsCard

/-- THE TIED CARD OF 'cutwaterlaw02.ZintRests'. -/
def zintRestsCard : Claim7 := { stood := { row := zintRestsRow, standIns := [], harness := (true, "f82c2b5f4a5d6899af2f1a5f4604a4400604dc7f2bffd3ee86d08ccf5e8bf5d7"), looks := false }, kinds := [], alts := [], laidByText := true, laidKinds := [.data, .data, .data, .data, .pinned], laidTests := true, laidLooks := .later }
def ZintRestsCardSaid : Prop := Claim7.holds Tryz.pinned (.plain (OpenSpec.ofChange zintRestsSpec)) zintRestsCard

/-- THE TIED CARD OF 'cutwaterlaw02.ZintSmall'. -/
def zintSmallCard : Claim7 := { stood := { row := zintSmallRow, standIns := [], harness := (true, "f82c2b5f4a5d6899af2f1a5f4604a4400604dc7f2bffd3ee86d08ccf5e8bf5d7"), looks := false }, kinds := [], alts := [], laidByText := true, laidKinds := [.data, .data, .data, .data, .pinned], laidTests := true, laidLooks := .later }
def ZintSmallCardSaid : Prop := Claim7.holds Tryz.pinned (.plain (OpenSpec.ofChange zintSmallSpec)) zintSmallCard

/-- THE TIED CARD OF 'cutwaterlaw02.ZintOrder'. -/
def zintOrderCard : Claim7 := { stood := { row := zintOrderRow, standIns := [], harness := (true, "f82c2b5f4a5d6899af2f1a5f4604a4400604dc7f2bffd3ee86d08ccf5e8bf5d7"), looks := false }, kinds := [], alts := [], laidByText := true, laidKinds := [.data, .data, .data, .data, .pinned], laidTests := true, laidLooks := .later }
def ZintOrderCardSaid : Prop := Claim7.holds Tryz.pinned (.plain (OpenSpec.ofChange zintOrderSpec)) zintOrderCard

/-- THE TIED CARD OF 'cutwaterlaw02.ZintDigits'. -/
def zintDigitsCard : Claim7 := { stood := { row := zintDigitsRow, standIns := [], harness := (true, "f82c2b5f4a5d6899af2f1a5f4604a4400604dc7f2bffd3ee86d08ccf5e8bf5d7"), looks := false }, kinds := [], alts := [], laidByText := true, laidKinds := [.data, .data, .data, .data, .pinned], laidTests := true, laidLooks := .later }
def ZintDigitsCardSaid : Prop := Claim7.holds Tryz.pinned (.plain (OpenSpec.ofChange zintDigitsSpec)) zintDigitsCard

/-- THE TIED CARD OF 'cutwaterlaw04.RatextShows'. -/
def ratextShowsCard : Claim7 := { stood := { row := ratextShowsRow, standIns := [], harness := (true, "f82c2b5f4a5d6899af2f1a5f4604a4400604dc7f2bffd3ee86d08ccf5e8bf5d7"), looks := false }, kinds := [], alts := [], laidByText := true, laidKinds := [.data, .data, .data, .data, .pinned], laidTests := true, laidLooks := .later }
def RatextShowsCardSaid : Prop := Claim7.holds Tryz.pinned (.plain (OpenSpec.ofChange ratextShowsSpec)) ratextShowsCard

/-- THE TIED CARD OF 'cutwaterlaw04.RatextThere'. -/
def ratextThereCard : Claim7 := { stood := { row := ratextThereRow, standIns := [], harness := (true, "f82c2b5f4a5d6899af2f1a5f4604a4400604dc7f2bffd3ee86d08ccf5e8bf5d7"), looks := false }, kinds := [], alts := [], laidByText := true, laidKinds := [.data, .data, .data, .data, .pinned], laidTests := true, laidLooks := .later }
def RatextThereCardSaid : Prop := Claim7.holds Tryz.pinned (.plain (OpenSpec.ofChange ratextThereSpec)) ratextThereCard

/-- THE SECOND FORM's CARD OF 'cutwaterlaw02.ZintFloors'. -/
def zintFloorsUptoCard : Claim7 := { stood := { row := zintFloorsUptoRow, standIns := [], harness := (true, "f82c2b5f4a5d6899af2f1a5f4604a4400604dc7f2bffd3ee86d08ccf5e8bf5d7"), looks := false }, kinds := [], alts := [], laidByText := true, laidKinds := [.data, .data, .data, .data, .pinned], laidTests := true, laidLooks := .later }
def ZintFloorsUptoCardSaid : Prop := Claim7.holds Tryz.pinned (.plain (OpenSpec.upto zintFloorsSpec)) zintFloorsUptoCard

/-- THE SECOND FORM's CARD OF 'cutwaterlaw02.ZintTexts'. -/
def zintTextsUptoCard : Claim7 := { stood := { row := zintTextsUptoRow, standIns := [], harness := (true, "f82c2b5f4a5d6899af2f1a5f4604a4400604dc7f2bffd3ee86d08ccf5e8bf5d7"), looks := false }, kinds := [], alts := [], laidByText := true, laidKinds := [.data, .data, .data, .data, .pinned], laidTests := true, laidLooks := .later }
def ZintTextsUptoCardSaid : Prop := Claim7.holds Tryz.pinned (.plain (OpenSpec.upto zintTextsSpec)) zintTextsUptoCard

/-- THE SECOND FORM's CARD OF 'cutwaterlaw02.ZintSums'. -/
def zintSumsUptoCard : Claim7 := { stood := { row := zintSumsUptoRow, standIns := [], harness := (true, "f82c2b5f4a5d6899af2f1a5f4604a4400604dc7f2bffd3ee86d08ccf5e8bf5d7"), looks := false }, kinds := [], alts := [], laidByText := true, laidKinds := [.data, .data, .data, .data, .pinned], laidTests := true, laidLooks := .later }
def ZintSumsUptoCardSaid : Prop := Claim7.holds Tryz.pinned (.plain (OpenSpec.upto zintSumsSpec)) zintSumsUptoCard

/-- THE SECOND FORM's CARD OF 'cutwaterlaw02.ZintRests'. -/
def zintRestsUptoCard : Claim7 := { stood := { row := zintRestsUptoRow, standIns := [], harness := (true, "f82c2b5f4a5d6899af2f1a5f4604a4400604dc7f2bffd3ee86d08ccf5e8bf5d7"), looks := false }, kinds := [], alts := [], laidByText := true, laidKinds := [.data, .data, .data, .data, .pinned], laidTests := true, laidLooks := .later }
def ZintRestsUptoCardSaid : Prop := Claim7.holds Tryz.pinned (.plain (OpenSpec.upto zintRestsSpec)) zintRestsUptoCard

/-- THE SECOND FORM's CARD OF 'cutwaterlaw02.ZintSmall'. -/
def zintSmallUptoCard : Claim7 := { stood := { row := zintSmallUptoRow, standIns := [], harness := (true, "f82c2b5f4a5d6899af2f1a5f4604a4400604dc7f2bffd3ee86d08ccf5e8bf5d7"), looks := false }, kinds := [], alts := [], laidByText := true, laidKinds := [.data, .data, .data, .data, .pinned], laidTests := true, laidLooks := .later }
def ZintSmallUptoCardSaid : Prop := Claim7.holds Tryz.pinned (.plain (OpenSpec.upto zintSmallSpec)) zintSmallUptoCard

/-- THE SECOND FORM's CARD OF 'cutwaterlaw02.ZintOrder'. -/
def zintOrderUptoCard : Claim7 := { stood := { row := zintOrderUptoRow, standIns := [], harness := (true, "f82c2b5f4a5d6899af2f1a5f4604a4400604dc7f2bffd3ee86d08ccf5e8bf5d7"), looks := false }, kinds := [], alts := [], laidByText := true, laidKinds := [.data, .data, .data, .data, .pinned], laidTests := true, laidLooks := .later }
def ZintOrderUptoCardSaid : Prop := Claim7.holds Tryz.pinned (.plain (OpenSpec.upto zintOrderSpec)) zintOrderUptoCard

/-- THE SECOND FORM's CARD OF 'cutwaterlaw02.ZintDigits'. -/
def zintDigitsUptoCard : Claim7 := { stood := { row := zintDigitsUptoRow, standIns := [], harness := (true, "f82c2b5f4a5d6899af2f1a5f4604a4400604dc7f2bffd3ee86d08ccf5e8bf5d7"), looks := false }, kinds := [], alts := [], laidByText := true, laidKinds := [.data, .data, .data, .data, .pinned], laidTests := true, laidLooks := .later }
def ZintDigitsUptoCardSaid : Prop := Claim7.holds Tryz.pinned (.plain (OpenSpec.upto zintDigitsSpec)) zintDigitsUptoCard

/-- THE SECOND FORM's CARD OF 'cutwaterlaw04.RatextShows'. -/
def ratextShowsUptoCard : Claim7 := { stood := { row := ratextShowsUptoRow, standIns := [], harness := (true, "f82c2b5f4a5d6899af2f1a5f4604a4400604dc7f2bffd3ee86d08ccf5e8bf5d7"), looks := false }, kinds := [], alts := [], laidByText := true, laidKinds := [.data, .data, .data, .data, .pinned], laidTests := true, laidLooks := .later }
def RatextShowsUptoCardSaid : Prop := Claim7.holds Tryz.pinned (.plain (OpenSpec.upto ratextShowsSpec)) ratextShowsUptoCard

/-- THE SECOND FORM's CARD OF 'cutwaterlaw04.RatextThere'. -/
def ratextThereUptoCard : Claim7 := { stood := { row := ratextThereUptoRow, standIns := [], harness := (true, "f82c2b5f4a5d6899af2f1a5f4604a4400604dc7f2bffd3ee86d08ccf5e8bf5d7"), looks := false }, kinds := [], alts := [], laidByText := true, laidKinds := [.data, .data, .data, .data, .pinned], laidTests := true, laidLooks := .later }
def RatextThereUptoCardSaid : Prop := Claim7.holds Tryz.pinned (.plain (OpenSpec.upto ratextThereSpec)) ratextThereUptoCard
end Rows
end Go.Proofs.YtgbfpimdnmmfpaaGreatDoor
