/-
  DERIVED. GIVEN WITH THE SEED: THE CARDS: each row of YtgenhkakcbedaaaGreatDoorRows.lean that lists a variable, with what it lists TIED to the program's text (the seventh form; the later family's looks); each row that meets fmt, with fmt's text TOLD by the authors' own Lean function (tested against real Go, not proved from fmt's source: count such statements apart). THE CARD IS WHAT COUNTS. Prove the row's statement (the work); the ties are given (YtgenhkakcbedaaaGreatDoorTie.lean); close each card by the builder's one call (the guide's Derived/Test/ToyasCard.lean, 'card_holds'). Laid BY PROGRAM, IN A SANDBOX (cutbox-door.mjs). By AI agents, Wed Nov 11 2026. No macro, syntax, notation, axiom, sorry.
-/
import Derived.Test.YtgenhkakcbedaaaGreatDoorRows
import GoSem.ClaimSeven
namespace Go.Proofs.YtgenhkakcbedaaaGreatDoor
namespace Rows

/-- THE TIED CARD OF 'sederuntlaw02.RatioMake'. -/
def ratioMakeCard : Claim7 := { stood := { row := ratioMakeRow, standIns := [], harness := (true, "a31d51d2de85b15acaf7b12dc1b68deddf4887892b56a20548132b98e055026d"), looks := true }, kinds := [], alts := [], laidByText := true, laidKinds := [.data, .data, .data, .data, .sentinel, .sentinel, .pinned], laidTests := true, laidLooks := .later }
def RatioMakeCardSaid : Prop := Claim7.holds Tryz.pinned (.plain (OpenSpec.ofChange ratioMakeSpec)) ratioMakeCard

/-- THE TIED CARD OF 'sederuntlaw02.RatioTexts'. -/
def ratioTextsCard : Claim7 := { stood := { row := ratioTextsRow, standIns := [], harness := (true, "a31d51d2de85b15acaf7b12dc1b68deddf4887892b56a20548132b98e055026d"), looks := true }, kinds := [], alts := [], laidByText := true, laidKinds := [.data, .data, .data, .data, .sentinel, .sentinel, .pinned], laidTests := true, laidLooks := .later }
def RatioTextsCardSaid : Prop := Claim7.holds Tryz.pinned (.plain (OpenSpec.ofChange ratioTextsSpec)) ratioTextsCard

/-- THE TIED CARD OF 'sederuntlaw02.RatioParse'. -/
def ratioParseCard : Claim7 := { stood := { row := ratioParseRow, standIns := [], harness := (true, "a31d51d2de85b15acaf7b12dc1b68deddf4887892b56a20548132b98e055026d"), looks := true }, kinds := [], alts := [], laidByText := true, laidKinds := [.data, .data, .data, .data, .sentinel, .sentinel, .pinned], laidTests := true, laidLooks := .later }
def RatioParseCardSaid : Prop := Claim7.holds Tryz.pinned (.plain (OpenSpec.ofChange ratioParseSpec)) ratioParseCard

/-- THE TIED CARD OF 'sederuntlaw02.RatioDecimal'. -/
def ratioDecimalCard : Claim7 := { stood := { row := ratioDecimalRow, standIns := [], harness := (true, "a31d51d2de85b15acaf7b12dc1b68deddf4887892b56a20548132b98e055026d"), looks := true }, kinds := [], alts := [], laidByText := true, laidKinds := [.data, .data, .data, .data, .sentinel, .sentinel, .pinned], laidTests := true, laidLooks := .later }
def RatioDecimalCardSaid : Prop := Claim7.holds Tryz.pinned (.plain (OpenSpec.ofChange ratioDecimalSpec)) ratioDecimalCard

/-- THE TIED CARD OF 'sederuntlaw02.RatioOrder'. -/
def ratioOrderCard : Claim7 := { stood := { row := ratioOrderRow, standIns := [], harness := (true, "a31d51d2de85b15acaf7b12dc1b68deddf4887892b56a20548132b98e055026d"), looks := true }, kinds := [], alts := [], laidByText := true, laidKinds := [.data, .data, .data, .data, .sentinel, .sentinel, .pinned], laidTests := true, laidLooks := .later }
def RatioOrderCardSaid : Prop := Claim7.holds Tryz.pinned (.plain (OpenSpec.ofChange ratioOrderSpec)) ratioOrderCard

/-- THE TIED CARD OF 'sederuntlaw02.RatioLaws'. -/
def ratioLawsCard : Claim7 := { stood := { row := ratioLawsRow, standIns := [], harness := (true, "a31d51d2de85b15acaf7b12dc1b68deddf4887892b56a20548132b98e055026d"), looks := true }, kinds := [], alts := [], laidByText := true, laidKinds := [.data, .data, .data, .data, .sentinel, .sentinel, .pinned], laidTests := true, laidLooks := .later }
def RatioLawsCardSaid : Prop := Claim7.holds Tryz.pinned (.plain (OpenSpec.ofChange ratioLawsSpec)) ratioLawsCard

/-- THE TIED CARD OF 'sederuntlaw02.RatioArithmetic'. -/
def ratioArithmeticCard : Claim7 := { stood := { row := ratioArithmeticRow, standIns := [], harness := (true, "a31d51d2de85b15acaf7b12dc1b68deddf4887892b56a20548132b98e055026d"), looks := true }, kinds := [], alts := [], laidByText := true, laidKinds := [.data, .data, .data, .data, .sentinel, .sentinel, .pinned], laidTests := true, laidLooks := .later }
def RatioArithmeticCardSaid : Prop := Claim7.holds Tryz.pinned (.plain (OpenSpec.ofChange ratioArithmeticSpec)) ratioArithmeticCard

/-- THE TIED CARD OF 'sederuntlaw02.RatioDot'. -/
def ratioDotCard : Claim7 := { stood := { row := ratioDotRow, standIns := [], harness := (true, "a31d51d2de85b15acaf7b12dc1b68deddf4887892b56a20548132b98e055026d"), looks := true }, kinds := [], alts := [], laidByText := true, laidKinds := [.data, .data, .data, .data, .sentinel, .sentinel, .pinned], laidTests := true, laidLooks := .later }
def RatioDotCardSaid : Prop := Claim7.holds Tryz.pinned (.plain (OpenSpec.ofChange ratioDotSpec)) ratioDotCard

/-- THE TIED CARD OF 'sederuntlaw02.RatioValid'. -/
def ratioValidCard : Claim7 := { stood := { row := ratioValidRow, standIns := [], harness := (true, "a31d51d2de85b15acaf7b12dc1b68deddf4887892b56a20548132b98e055026d"), looks := true }, kinds := [], alts := [], laidByText := true, laidKinds := [.data, .data, .data, .data, .sentinel, .sentinel, .pinned], laidTests := true, laidLooks := .later }
def RatioValidCardSaid : Prop := Claim7.holds Tryz.pinned (.plain (OpenSpec.ofChange ratioValidSpec)) ratioValidCard

/-- THE TIED CARD OF 'sederuntlaw01.IntegerErrors'. -/
def integerErrorsCard : Claim7 := { stood := { row := integerErrorsRow, standIns := [], harness := (true, "a31d51d2de85b15acaf7b12dc1b68deddf4887892b56a20548132b98e055026d"), looks := true }, kinds := [], alts := [], laidByText := true, laidKinds := [.data, .data, .data, .data, .sentinel, .sentinel, .pinned], laidTests := true, laidLooks := .later }
def IntegerErrorsCardSaid : Prop := Claim7.holds Tryz.pinned (.plain (OpenSpec.ofChange integerErrorsSpec)) integerErrorsCard

/-- THE SECOND FORM's CARD OF 'sederuntlaw02.RatioMake'. -/
def ratioMakeUptoCard : Claim7 := { stood := { row := ratioMakeUptoRow, standIns := [], harness := (true, "a31d51d2de85b15acaf7b12dc1b68deddf4887892b56a20548132b98e055026d"), looks := true }, kinds := [], alts := [], laidByText := true, laidKinds := [.data, .data, .data, .data, .sentinel, .sentinel, .pinned], laidTests := true, laidLooks := .later }
def RatioMakeUptoCardSaid : Prop := Claim7.holds Tryz.pinned (.plain (OpenSpec.upto ratioMakeSpec)) ratioMakeUptoCard

/-- THE SECOND FORM's CARD OF 'sederuntlaw02.RatioTexts'. -/
def ratioTextsUptoCard : Claim7 := { stood := { row := ratioTextsUptoRow, standIns := [], harness := (true, "a31d51d2de85b15acaf7b12dc1b68deddf4887892b56a20548132b98e055026d"), looks := true }, kinds := [], alts := [], laidByText := true, laidKinds := [.data, .data, .data, .data, .sentinel, .sentinel, .pinned], laidTests := true, laidLooks := .later }
def RatioTextsUptoCardSaid : Prop := Claim7.holds Tryz.pinned (.plain (OpenSpec.upto ratioTextsSpec)) ratioTextsUptoCard

/-- THE SECOND FORM's CARD OF 'sederuntlaw02.RatioParse'. -/
def ratioParseUptoCard : Claim7 := { stood := { row := ratioParseUptoRow, standIns := [], harness := (true, "a31d51d2de85b15acaf7b12dc1b68deddf4887892b56a20548132b98e055026d"), looks := true }, kinds := [], alts := [], laidByText := true, laidKinds := [.data, .data, .data, .data, .sentinel, .sentinel, .pinned], laidTests := true, laidLooks := .later }
def RatioParseUptoCardSaid : Prop := Claim7.holds Tryz.pinned (.plain (OpenSpec.upto ratioParseSpec)) ratioParseUptoCard

/-- THE SECOND FORM's CARD OF 'sederuntlaw02.RatioDecimal'. -/
def ratioDecimalUptoCard : Claim7 := { stood := { row := ratioDecimalUptoRow, standIns := [], harness := (true, "a31d51d2de85b15acaf7b12dc1b68deddf4887892b56a20548132b98e055026d"), looks := true }, kinds := [], alts := [], laidByText := true, laidKinds := [.data, .data, .data, .data, .sentinel, .sentinel, .pinned], laidTests := true, laidLooks := .later }
def RatioDecimalUptoCardSaid : Prop := Claim7.holds Tryz.pinned (.plain (OpenSpec.upto ratioDecimalSpec)) ratioDecimalUptoCard

/-- THE SECOND FORM's CARD OF 'sederuntlaw02.RatioOrder'. -/
def ratioOrderUptoCard : Claim7 := { stood := { row := ratioOrderUptoRow, standIns := [], harness := (true, "a31d51d2de85b15acaf7b12dc1b68deddf4887892b56a20548132b98e055026d"), looks := true }, kinds := [], alts := [], laidByText := true, laidKinds := [.data, .data, .data, .data, .sentinel, .sentinel, .pinned], laidTests := true, laidLooks := .later }
def RatioOrderUptoCardSaid : Prop := Claim7.holds Tryz.pinned (.plain (OpenSpec.upto ratioOrderSpec)) ratioOrderUptoCard

/-- THE SECOND FORM's CARD OF 'sederuntlaw02.RatioLaws'. -/
def ratioLawsUptoCard : Claim7 := { stood := { row := ratioLawsUptoRow, standIns := [], harness := (true, "a31d51d2de85b15acaf7b12dc1b68deddf4887892b56a20548132b98e055026d"), looks := true }, kinds := [], alts := [], laidByText := true, laidKinds := [.data, .data, .data, .data, .sentinel, .sentinel, .pinned], laidTests := true, laidLooks := .later }
def RatioLawsUptoCardSaid : Prop := Claim7.holds Tryz.pinned (.plain (OpenSpec.upto ratioLawsSpec)) ratioLawsUptoCard

/-- THE SECOND FORM's CARD OF 'sederuntlaw02.RatioArithmetic'. -/
def ratioArithmeticUptoCard : Claim7 := { stood := { row := ratioArithmeticUptoRow, standIns := [], harness := (true, "a31d51d2de85b15acaf7b12dc1b68deddf4887892b56a20548132b98e055026d"), looks := true }, kinds := [], alts := [], laidByText := true, laidKinds := [.data, .data, .data, .data, .sentinel, .sentinel, .pinned], laidTests := true, laidLooks := .later }
def RatioArithmeticUptoCardSaid : Prop := Claim7.holds Tryz.pinned (.plain (OpenSpec.upto ratioArithmeticSpec)) ratioArithmeticUptoCard

/-- THE SECOND FORM's CARD OF 'sederuntlaw02.RatioDot'. -/
def ratioDotUptoCard : Claim7 := { stood := { row := ratioDotUptoRow, standIns := [], harness := (true, "a31d51d2de85b15acaf7b12dc1b68deddf4887892b56a20548132b98e055026d"), looks := true }, kinds := [], alts := [], laidByText := true, laidKinds := [.data, .data, .data, .data, .sentinel, .sentinel, .pinned], laidTests := true, laidLooks := .later }
def RatioDotUptoCardSaid : Prop := Claim7.holds Tryz.pinned (.plain (OpenSpec.upto ratioDotSpec)) ratioDotUptoCard

/-- THE SECOND FORM's CARD OF 'sederuntlaw02.RatioValid'. -/
def ratioValidUptoCard : Claim7 := { stood := { row := ratioValidUptoRow, standIns := [], harness := (true, "a31d51d2de85b15acaf7b12dc1b68deddf4887892b56a20548132b98e055026d"), looks := true }, kinds := [], alts := [], laidByText := true, laidKinds := [.data, .data, .data, .data, .sentinel, .sentinel, .pinned], laidTests := true, laidLooks := .later }
def RatioValidUptoCardSaid : Prop := Claim7.holds Tryz.pinned (.plain (OpenSpec.upto ratioValidSpec)) ratioValidUptoCard

/-- THE SECOND FORM's CARD OF 'sederuntlaw01.IntegerErrors'. -/
def integerErrorsUptoCard : Claim7 := { stood := { row := integerErrorsUptoRow, standIns := [], harness := (true, "a31d51d2de85b15acaf7b12dc1b68deddf4887892b56a20548132b98e055026d"), looks := true }, kinds := [], alts := [], laidByText := true, laidKinds := [.data, .data, .data, .data, .sentinel, .sentinel, .pinned], laidTests := true, laidLooks := .later }
def IntegerErrorsUptoCardSaid : Prop := Claim7.holds Tryz.pinned (.plain (OpenSpec.upto integerErrorsSpec)) integerErrorsUptoCard
end Rows
end Go.Proofs.YtgenhkakcbedaaaGreatDoor
