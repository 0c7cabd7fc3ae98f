/-
  DERIVED. GIVEN WITH THE SEED: THE CARDS: each row of YtijjagofingpdaaGreatDoorRows.lean that lists a variable, with what it lists TIED to the program's text (the seventh form; the later family's looks); each row that meets fmt, with fmt's text TOLD by the authors' own Lean function (tested against real Go, not proved from fmt's source: count such statements apart). THE CARD IS WHAT COUNTS. Prove the row's statement (the work); the ties are given (YtijjagofingpdaaGreatDoorTie.lean); close each card by the builder's one call (the guide's Derived/Test/ToyasCard.lean, 'card_holds'). Laid BY PROGRAM, IN A SANDBOX (cutbox-door.mjs). By AI agents, Wed Nov 11 2026. No macro, syntax, notation, axiom, sorry.
-/
import Derived.Test.YtijjagofingpdaaGreatDoorRows
import GoSem.ClaimSeven
namespace Go.Proofs.YtijjagofingpdaaGreatDoor
namespace Rows

/-- THE TIED CARD OF 'sederuntlaw01.IntegerTexts'. -/
def integerTextsCard : Claim7 := { stood := { row := integerTextsRow, standIns := [], harness := (true, "74761ab78b5caadf9131a8fbd89db155d01c3c544a3c718ae6be4ae16033cb2f"), looks := true }, kinds := [], alts := [], laidByText := true, laidKinds := [.data, .data, .data, .data, .sentinel, .sentinel, .pinned], laidTests := true, laidLooks := .later }
def IntegerTextsCardSaid : Prop := Claim7.holds Tryz.pinned (.plain (OpenSpec.ofChange integerTextsSpec)) integerTextsCard

/-- THE TIED CARD OF 'sederuntlaw01.IntegerErrors'. -/
def integerErrorsCard : Claim7 := { stood := { row := integerErrorsRow, standIns := [], harness := (true, "74761ab78b5caadf9131a8fbd89db155d01c3c544a3c718ae6be4ae16033cb2f"), looks := true }, kinds := [], alts := [], laidByText := true, laidKinds := [.data, .data, .data, .data, .sentinel, .sentinel, .pinned], laidTests := true, laidLooks := .later }
def IntegerErrorsCardSaid : Prop := Claim7.holds Tryz.pinned (.plain (OpenSpec.ofChange integerErrorsSpec)) integerErrorsCard

/-- THE SECOND FORM's CARD OF 'sederuntlaw01.IntegerTexts'. -/
def integerTextsUptoCard : Claim7 := { stood := { row := integerTextsUptoRow, standIns := [], harness := (true, "74761ab78b5caadf9131a8fbd89db155d01c3c544a3c718ae6be4ae16033cb2f"), looks := true }, kinds := [], alts := [], laidByText := true, laidKinds := [.data, .data, .data, .data, .sentinel, .sentinel, .pinned], laidTests := true, laidLooks := .later }
def IntegerTextsUptoCardSaid : Prop := Claim7.holds Tryz.pinned (.plain (OpenSpec.upto integerTextsSpec)) integerTextsUptoCard

/-- THE SECOND FORM's CARD OF 'sederuntlaw01.IntegerErrors'. -/
def integerErrorsUptoCard : Claim7 := { stood := { row := integerErrorsUptoRow, standIns := [], harness := (true, "74761ab78b5caadf9131a8fbd89db155d01c3c544a3c718ae6be4ae16033cb2f"), looks := true }, kinds := [], alts := [], laidByText := true, laidKinds := [.data, .data, .data, .data, .sentinel, .sentinel, .pinned], laidTests := true, laidLooks := .later }
def IntegerErrorsUptoCardSaid : Prop := Claim7.holds Tryz.pinned (.plain (OpenSpec.upto integerErrorsSpec)) integerErrorsUptoCard
end Rows
end Go.Proofs.YtijjagofingpdaaGreatDoor
