/-
  DERIVED. GIVEN WITH THE SEED: THE CARDS: each row of YtagdgdacecibiaaGreatDoorRows.lean that lists a variable, with what it lists TIED to the program's text (the seventh form; the later family's looks); each row that meets fmt, with fmt's text TOLD by the authors' own Lean function (tested against real Go, not proved from fmt's source: count such statements apart). THE CARD IS WHAT COUNTS. Prove the row's statement (the work); the ties are given (YtagdgdacecibiaaGreatDoorTie.lean); close each card by the builder's one call (the guide's Derived/Test/ToyasCard.lean, 'card_holds'). Laid BY PROGRAM, IN A SANDBOX (cutbox-door.mjs). By AI agents, Wed Nov 11 2026. No macro, syntax, notation, axiom, sorry.
-/
import Derived.Test.YtagdgdacecibiaaGreatDoorRows
import GoSem.ClaimSeven
namespace Go.Proofs.YtagdgdacecibiaaGreatDoor
namespace Rows

/-- THE TIED CARD OF 'sederuntlaw14.DualOptimal'. -/
def dualOptimalCard : Claim7 := { stood := { row := dualOptimalRow, standIns := [], harness := (true, "f2d776d1a05b6f6bbbc870f86139e058b77e9187ccc76a8a9e62515ad652a3a2"), looks := true }, kinds := [], alts := [], laidByText := true, laidKinds := [.data, .data, .data], laidTests := true, laidLooks := .later }
def DualOptimalCardSaid : Prop := Claim7.holds Tryz.pinned (.plain (OpenSpec.ofChange dualOptimalSpec)) dualOptimalCard

/-- THE TIED CARD OF 'sederuntlaw14.DualSlack'. -/
def dualSlackCard : Claim7 := { stood := { row := dualSlackRow, standIns := [], harness := (true, "f2d776d1a05b6f6bbbc870f86139e058b77e9187ccc76a8a9e62515ad652a3a2"), looks := true }, kinds := [], alts := [], laidByText := true, laidKinds := [.data, .data, .data], laidTests := true, laidLooks := .later }
def DualSlackCardSaid : Prop := Claim7.holds Tryz.pinned (.plain (OpenSpec.ofChange dualSlackSpec)) dualSlackCard

/-- THE TIED CARD OF 'sederuntlaw14.DualGap'. -/
def dualGapCard : Claim7 := { stood := { row := dualGapRow, standIns := [], harness := (true, "f2d776d1a05b6f6bbbc870f86139e058b77e9187ccc76a8a9e62515ad652a3a2"), looks := true }, kinds := [], alts := [], laidByText := true, laidKinds := [.data, .data, .data], laidTests := true, laidLooks := .later }
def DualGapCardSaid : Prop := Claim7.holds Tryz.pinned (.plain (OpenSpec.ofChange dualGapSpec)) dualGapCard

/-- THE TIED CARD OF 'sederuntlaw13.SimplexErrors'. -/
def simplexErrorsCard : Claim7 := { stood := { row := simplexErrorsRow, standIns := [], harness := (true, "f2d776d1a05b6f6bbbc870f86139e058b77e9187ccc76a8a9e62515ad652a3a2"), looks := true }, kinds := [], alts := [], laidByText := true, laidKinds := [.data, .data, .data], laidTests := true, laidLooks := .later }
def SimplexErrorsCardSaid : Prop := Claim7.holds Tryz.pinned (.plain (OpenSpec.ofChange simplexErrorsSpec)) simplexErrorsCard

/-- THE TIED CARD OF 'sederuntlaw14.DualTexts'. -/
def dualTextsCard : Claim7 := { stood := { row := dualTextsRow, standIns := [], harness := (true, "f2d776d1a05b6f6bbbc870f86139e058b77e9187ccc76a8a9e62515ad652a3a2"), looks := true }, kinds := [], alts := [], laidByText := true, laidKinds := [.data, .data, .data, .data, .sentinel, .sentinel, .pinned], laidTests := true, laidLooks := .later }
def DualTextsCardSaid : Prop := Claim7.holds Tryz.pinned (.plain (OpenSpec.ofChange dualTextsSpec)) dualTextsCard

/-- THE TIED CARD OF 'sederuntlaw14.DualParse'. -/
def dualParseCard : Claim7 := { stood := { row := dualParseRow, standIns := [], harness := (true, "f2d776d1a05b6f6bbbc870f86139e058b77e9187ccc76a8a9e62515ad652a3a2"), looks := true }, kinds := [], alts := [], laidByText := true, laidKinds := [.data, .data, .data, .data, .sentinel, .sentinel, .pinned], laidTests := true, laidLooks := .later }
def DualParseCardSaid : Prop := Claim7.holds Tryz.pinned (.plain (OpenSpec.ofChange dualParseSpec)) dualParseCard

/-- THE SECOND FORM's CARD OF 'sederuntlaw14.DualOptimal'. -/
def dualOptimalUptoCard : Claim7 := { stood := { row := dualOptimalUptoRow, standIns := [], harness := (true, "f2d776d1a05b6f6bbbc870f86139e058b77e9187ccc76a8a9e62515ad652a3a2"), looks := true }, kinds := [], alts := [], laidByText := true, laidKinds := [.data, .data, .data], laidTests := true, laidLooks := .later }
def DualOptimalUptoCardSaid : Prop := Claim7.holds Tryz.pinned (.plain (OpenSpec.upto dualOptimalSpec)) dualOptimalUptoCard

/-- THE SECOND FORM's CARD OF 'sederuntlaw14.DualSlack'. -/
def dualSlackUptoCard : Claim7 := { stood := { row := dualSlackUptoRow, standIns := [], harness := (true, "f2d776d1a05b6f6bbbc870f86139e058b77e9187ccc76a8a9e62515ad652a3a2"), looks := true }, kinds := [], alts := [], laidByText := true, laidKinds := [.data, .data, .data], laidTests := true, laidLooks := .later }
def DualSlackUptoCardSaid : Prop := Claim7.holds Tryz.pinned (.plain (OpenSpec.upto dualSlackSpec)) dualSlackUptoCard

/-- THE SECOND FORM's CARD OF 'sederuntlaw14.DualGap'. -/
def dualGapUptoCard : Claim7 := { stood := { row := dualGapUptoRow, standIns := [], harness := (true, "f2d776d1a05b6f6bbbc870f86139e058b77e9187ccc76a8a9e62515ad652a3a2"), looks := true }, kinds := [], alts := [], laidByText := true, laidKinds := [.data, .data, .data], laidTests := true, laidLooks := .later }
def DualGapUptoCardSaid : Prop := Claim7.holds Tryz.pinned (.plain (OpenSpec.upto dualGapSpec)) dualGapUptoCard

/-- THE SECOND FORM's CARD OF 'sederuntlaw13.SimplexErrors'. -/
def simplexErrorsUptoCard : Claim7 := { stood := { row := simplexErrorsUptoRow, standIns := [], harness := (true, "f2d776d1a05b6f6bbbc870f86139e058b77e9187ccc76a8a9e62515ad652a3a2"), looks := true }, kinds := [], alts := [], laidByText := true, laidKinds := [.data, .data, .data], laidTests := true, laidLooks := .later }
def SimplexErrorsUptoCardSaid : Prop := Claim7.holds Tryz.pinned (.plain (OpenSpec.upto simplexErrorsSpec)) simplexErrorsUptoCard

/-- THE SECOND FORM's CARD OF 'sederuntlaw14.DualTexts'. -/
def dualTextsUptoCard : Claim7 := { stood := { row := dualTextsUptoRow, standIns := [], harness := (true, "f2d776d1a05b6f6bbbc870f86139e058b77e9187ccc76a8a9e62515ad652a3a2"), looks := true }, kinds := [], alts := [], laidByText := true, laidKinds := [.data, .data, .data, .data, .sentinel, .sentinel, .pinned], laidTests := true, laidLooks := .later }
def DualTextsUptoCardSaid : Prop := Claim7.holds Tryz.pinned (.plain (OpenSpec.upto dualTextsSpec)) dualTextsUptoCard

/-- THE SECOND FORM's CARD OF 'sederuntlaw14.DualParse'. -/
def dualParseUptoCard : Claim7 := { stood := { row := dualParseUptoRow, standIns := [], harness := (true, "f2d776d1a05b6f6bbbc870f86139e058b77e9187ccc76a8a9e62515ad652a3a2"), looks := true }, kinds := [], alts := [], laidByText := true, laidKinds := [.data, .data, .data, .data, .sentinel, .sentinel, .pinned], laidTests := true, laidLooks := .later }
def DualParseUptoCardSaid : Prop := Claim7.holds Tryz.pinned (.plain (OpenSpec.upto dualParseSpec)) dualParseUptoCard
end Rows
end Go.Proofs.YtagdgdacecibiaaGreatDoor
