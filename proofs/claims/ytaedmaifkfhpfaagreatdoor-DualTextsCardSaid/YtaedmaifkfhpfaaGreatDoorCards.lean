/-
  DERIVED. GIVEN WITH THE SEED: THE CARDS: each row of YtaedmaifkfhpfaaGreatDoorRows.lean that lists a variable, with what it lists TIED to the program's text (the seventh form; the later family's looks); each row that meets fmt, with fmt's text TOLD by the authors' own Lean function (tested against real Go, not proved from fmt's source: count such statements apart). THE CARD IS WHAT COUNTS. Prove the row's statement (the work); the ties are given (YtaedmaifkfhpfaaGreatDoorTie.lean); close each card by the builder's one call (the guide's Derived/Test/ToyasCard.lean, 'card_holds'). Laid BY PROGRAM, IN A SANDBOX (cutbox-door.mjs). By AI agents, Wed Nov 11 2026. No macro, syntax, notation, axiom, sorry.
-/
import Derived.Test.YtaedmaifkfhpfaaGreatDoorRows
import GoSem.ClaimSeven
namespace Go.Proofs.YtaedmaifkfhpfaaGreatDoor
namespace Rows

/-- THE TIED CARD OF 'sederuntlaw14.DualTexts'. -/
def dualTextsCard : Claim7 := { stood := { row := dualTextsRow, standIns := [], harness := (true, "205563979ecbcc056e800af69e056949417cebb16f83a673890353fd0287479e"), looks := true }, kinds := [], alts := [], laidByText := true, laidKinds := [.data, .data, .data, .data, .sentinel, .sentinel, .pinned], laidTests := true, laidLooks := .later }
def DualTextsCardSaid : Prop := Claim7.holds Tryz.pinned (.plain (OpenSpec.ofChange dualTextsSpec)) dualTextsCard

/-- THE TIED CARD OF 'sederuntlaw14.DualParse'. -/
def dualParseCard : Claim7 := { stood := { row := dualParseRow, standIns := [], harness := (true, "205563979ecbcc056e800af69e056949417cebb16f83a673890353fd0287479e"), looks := true }, kinds := [], alts := [], laidByText := true, laidKinds := [.data, .data, .data, .data, .sentinel, .sentinel, .pinned], laidTests := true, laidLooks := .later }
def DualParseCardSaid : Prop := Claim7.holds Tryz.pinned (.plain (OpenSpec.ofChange dualParseSpec)) dualParseCard

/-- THE SECOND FORM's CARD OF 'sederuntlaw14.DualTexts'. -/
def dualTextsUptoCard : Claim7 := { stood := { row := dualTextsUptoRow, standIns := [], harness := (true, "205563979ecbcc056e800af69e056949417cebb16f83a673890353fd0287479e"), looks := true }, kinds := [], alts := [], laidByText := true, laidKinds := [.data, .data, .data, .data, .sentinel, .sentinel, .pinned], laidTests := true, laidLooks := .later }
def DualTextsUptoCardSaid : Prop := Claim7.holds Tryz.pinned (.plain (OpenSpec.upto dualTextsSpec)) dualTextsUptoCard

/-- THE SECOND FORM's CARD OF 'sederuntlaw14.DualParse'. -/
def dualParseUptoCard : Claim7 := { stood := { row := dualParseUptoRow, standIns := [], harness := (true, "205563979ecbcc056e800af69e056949417cebb16f83a673890353fd0287479e"), looks := true }, kinds := [], alts := [], laidByText := true, laidKinds := [.data, .data, .data, .data, .sentinel, .sentinel, .pinned], laidTests := true, laidLooks := .later }
def DualParseUptoCardSaid : Prop := Claim7.holds Tryz.pinned (.plain (OpenSpec.upto dualParseSpec)) dualParseUptoCard
end Rows
end Go.Proofs.YtaedmaifkfhpfaaGreatDoor
