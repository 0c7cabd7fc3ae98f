/-
  DERIVED. GIVEN WITH THE SEED: THE CARDS: each row of YtijjagofingpdaaDoorRows.lean that lists a variable, with what it lists TIED to the program's text (the seventh form; the later family's looks); each row that meets fmt, with fmt's text TOLD by the authors' own Lean function (tested against real Go, not proved from fmt's source: count such statements apart). THE CARD IS WHAT COUNTS. Prove the row's statement (the work); the ties are given (YtijjagofingpdaaDoorTie.lean); close each card by the builder's one call (the guide's Derived/Test/ToyasCard.lean, 'card_holds'). Laid BY PROGRAM, IN A SANDBOX (cutbox-door.mjs). By AI agents, Wed Nov 11 2026. No macro, syntax, notation, axiom, sorry.
-/
import Derived.Test.YtijjagofingpdaaDoorRows
import GoSem.ClaimSeven
namespace Go.Proofs.YtijjagofingpdaaDoor
namespace Rows

/-- THE TIED CARD OF 'sederuntlaw01.IntegerGcd'. -/
def integerGcdCard : Claim7 := { stood := { row := integerGcdRow, standIns := [], harness := (true, "a9ac52e5ccfaa31c8399a5b040ea06b990e56c525249228f38da2bb490d95dd8"), looks := true }, kinds := [], alts := [], laidByText := true, laidKinds := [.data, .data, .data, .data, .sentinel, .sentinel, .pinned], laidTests := true, laidLooks := .later }
def IntegerGcdCardSaid : Prop := Claim7.holds Tryd.pinned (.plain (OpenSpec.ofChange integerGcdSpec)) integerGcdCard

/-- THE TIED CARD OF 'sederuntlaw01.IntegerProduct'. -/
def integerProductCard : Claim7 := { stood := { row := integerProductRow, standIns := [], harness := (true, "a9ac52e5ccfaa31c8399a5b040ea06b990e56c525249228f38da2bb490d95dd8"), looks := true }, kinds := [], alts := [], laidByText := true, laidKinds := [.data, .data, .data, .data, .sentinel, .sentinel, .pinned], laidTests := true, laidLooks := .later }
def IntegerProductCardSaid : Prop := Claim7.holds Tryd.pinned (.plain (OpenSpec.ofChange integerProductSpec)) integerProductCard

/-- THE TIED CARD OF 'sederuntlaw01.IntegerValid'. -/
def integerValidCard : Claim7 := { stood := { row := integerValidRow, standIns := [], harness := (true, "a9ac52e5ccfaa31c8399a5b040ea06b990e56c525249228f38da2bb490d95dd8"), looks := true }, kinds := [], alts := [], laidByText := true, laidKinds := [.data, .data, .data, .data, .sentinel, .sentinel, .pinned], laidTests := true, laidLooks := .later }
def IntegerValidCardSaid : Prop := Claim7.holds Tryd.pinned (.plain (OpenSpec.ofChange integerValidSpec)) integerValidCard

/-- THE TIED CARD OF 'sederuntlaw01.IntegerOf'. -/
def integerOfCard : Claim7 := { stood := { row := integerOfRow, standIns := [], harness := (true, "a9ac52e5ccfaa31c8399a5b040ea06b990e56c525249228f38da2bb490d95dd8"), looks := true }, kinds := [], alts := [], laidByText := true, laidKinds := [.data, .data, .data, .data, .sentinel, .sentinel, .pinned], laidTests := true, laidLooks := .later }
def IntegerOfCardSaid : Prop := Claim7.holds Tryd.pinned (.plain (OpenSpec.ofChange integerOfSpec)) integerOfCard

/-- THE TIED CARD OF 'sederuntlaw01.IntegerSum'. -/
def integerSumCard : Claim7 := { stood := { row := integerSumRow, standIns := [], harness := (true, "a9ac52e5ccfaa31c8399a5b040ea06b990e56c525249228f38da2bb490d95dd8"), looks := true }, kinds := [], alts := [], laidByText := true, laidKinds := [.data, .data, .data, .data, .sentinel, .sentinel, .pinned], laidTests := true, laidLooks := .later }
def IntegerSumCardSaid : Prop := Claim7.holds Tryd.pinned (.plain (OpenSpec.ofChange integerSumSpec)) integerSumCard

/-- THE TIED CARD OF 'sederuntlaw01.IntegerDivision'. -/
def integerDivisionCard : Claim7 := { stood := { row := integerDivisionRow, standIns := [], harness := (true, "a9ac52e5ccfaa31c8399a5b040ea06b990e56c525249228f38da2bb490d95dd8"), looks := true }, kinds := [], alts := [], laidByText := true, laidKinds := [.data, .data, .data, .data, .sentinel, .sentinel, .pinned], laidTests := true, laidLooks := .later }
def IntegerDivisionCardSaid : Prop := Claim7.holds Tryd.pinned (.plain (OpenSpec.ofChange integerDivisionSpec)) integerDivisionCard

/-- THE TIED CARD OF 'sederuntlaw01.IntegerOrder'. -/
def integerOrderCard : Claim7 := { stood := { row := integerOrderRow, standIns := [], harness := (true, "a9ac52e5ccfaa31c8399a5b040ea06b990e56c525249228f38da2bb490d95dd8"), looks := true }, kinds := [], alts := [], laidByText := true, laidKinds := [.data, .data, .data, .data, .sentinel, .sentinel, .pinned], laidTests := true, laidLooks := .later }
def IntegerOrderCardSaid : Prop := Claim7.holds Tryd.pinned (.plain (OpenSpec.ofChange integerOrderSpec)) integerOrderCard

/-- THE TIED CARD OF 'sederuntlaw01.IntegerParse'. -/
def integerParseCard : Claim7 := { stood := { row := integerParseRow, standIns := [], harness := (true, "a9ac52e5ccfaa31c8399a5b040ea06b990e56c525249228f38da2bb490d95dd8"), looks := true }, kinds := [], alts := [], laidByText := true, laidKinds := [.data, .data, .data, .data, .sentinel, .sentinel, .pinned], laidTests := true, laidLooks := .later }
def IntegerParseCardSaid : Prop := Claim7.holds Tryd.pinned (.plain (OpenSpec.ofChange integerParseSpec)) integerParseCard

/-- THE SECOND FORM's CARD OF 'sederuntlaw01.IntegerGcd'. -/
def integerGcdUptoCard : Claim7 := { stood := { row := integerGcdUptoRow, standIns := [], harness := (true, "a9ac52e5ccfaa31c8399a5b040ea06b990e56c525249228f38da2bb490d95dd8"), looks := true }, kinds := [], alts := [], laidByText := true, laidKinds := [.data, .data, .data, .data, .sentinel, .sentinel, .pinned], laidTests := true, laidLooks := .later }
def IntegerGcdUptoCardSaid : Prop := Claim7.holds Tryd.pinned (.plain (OpenSpec.upto integerGcdSpec)) integerGcdUptoCard

/-- THE SECOND FORM's CARD OF 'sederuntlaw01.IntegerProduct'. -/
def integerProductUptoCard : Claim7 := { stood := { row := integerProductUptoRow, standIns := [], harness := (true, "a9ac52e5ccfaa31c8399a5b040ea06b990e56c525249228f38da2bb490d95dd8"), looks := true }, kinds := [], alts := [], laidByText := true, laidKinds := [.data, .data, .data, .data, .sentinel, .sentinel, .pinned], laidTests := true, laidLooks := .later }
def IntegerProductUptoCardSaid : Prop := Claim7.holds Tryd.pinned (.plain (OpenSpec.upto integerProductSpec)) integerProductUptoCard

/-- THE SECOND FORM's CARD OF 'sederuntlaw01.IntegerValid'. -/
def integerValidUptoCard : Claim7 := { stood := { row := integerValidUptoRow, standIns := [], harness := (true, "a9ac52e5ccfaa31c8399a5b040ea06b990e56c525249228f38da2bb490d95dd8"), looks := true }, kinds := [], alts := [], laidByText := true, laidKinds := [.data, .data, .data, .data, .sentinel, .sentinel, .pinned], laidTests := true, laidLooks := .later }
def IntegerValidUptoCardSaid : Prop := Claim7.holds Tryd.pinned (.plain (OpenSpec.upto integerValidSpec)) integerValidUptoCard

/-- THE SECOND FORM's CARD OF 'sederuntlaw01.IntegerOf'. -/
def integerOfUptoCard : Claim7 := { stood := { row := integerOfUptoRow, standIns := [], harness := (true, "a9ac52e5ccfaa31c8399a5b040ea06b990e56c525249228f38da2bb490d95dd8"), looks := true }, kinds := [], alts := [], laidByText := true, laidKinds := [.data, .data, .data, .data, .sentinel, .sentinel, .pinned], laidTests := true, laidLooks := .later }
def IntegerOfUptoCardSaid : Prop := Claim7.holds Tryd.pinned (.plain (OpenSpec.upto integerOfSpec)) integerOfUptoCard

/-- THE SECOND FORM's CARD OF 'sederuntlaw01.IntegerSum'. -/
def integerSumUptoCard : Claim7 := { stood := { row := integerSumUptoRow, standIns := [], harness := (true, "a9ac52e5ccfaa31c8399a5b040ea06b990e56c525249228f38da2bb490d95dd8"), looks := true }, kinds := [], alts := [], laidByText := true, laidKinds := [.data, .data, .data, .data, .sentinel, .sentinel, .pinned], laidTests := true, laidLooks := .later }
def IntegerSumUptoCardSaid : Prop := Claim7.holds Tryd.pinned (.plain (OpenSpec.upto integerSumSpec)) integerSumUptoCard

/-- THE SECOND FORM's CARD OF 'sederuntlaw01.IntegerDivision'. -/
def integerDivisionUptoCard : Claim7 := { stood := { row := integerDivisionUptoRow, standIns := [], harness := (true, "a9ac52e5ccfaa31c8399a5b040ea06b990e56c525249228f38da2bb490d95dd8"), looks := true }, kinds := [], alts := [], laidByText := true, laidKinds := [.data, .data, .data, .data, .sentinel, .sentinel, .pinned], laidTests := true, laidLooks := .later }
def IntegerDivisionUptoCardSaid : Prop := Claim7.holds Tryd.pinned (.plain (OpenSpec.upto integerDivisionSpec)) integerDivisionUptoCard

/-- THE SECOND FORM's CARD OF 'sederuntlaw01.IntegerOrder'. -/
def integerOrderUptoCard : Claim7 := { stood := { row := integerOrderUptoRow, standIns := [], harness := (true, "a9ac52e5ccfaa31c8399a5b040ea06b990e56c525249228f38da2bb490d95dd8"), looks := true }, kinds := [], alts := [], laidByText := true, laidKinds := [.data, .data, .data, .data, .sentinel, .sentinel, .pinned], laidTests := true, laidLooks := .later }
def IntegerOrderUptoCardSaid : Prop := Claim7.holds Tryd.pinned (.plain (OpenSpec.upto integerOrderSpec)) integerOrderUptoCard

/-- THE SECOND FORM's CARD OF 'sederuntlaw01.IntegerParse'. -/
def integerParseUptoCard : Claim7 := { stood := { row := integerParseUptoRow, standIns := [], harness := (true, "a9ac52e5ccfaa31c8399a5b040ea06b990e56c525249228f38da2bb490d95dd8"), looks := true }, kinds := [], alts := [], laidByText := true, laidKinds := [.data, .data, .data, .data, .sentinel, .sentinel, .pinned], laidTests := true, laidLooks := .later }
def IntegerParseUptoCardSaid : Prop := Claim7.holds Tryd.pinned (.plain (OpenSpec.upto integerParseSpec)) integerParseUptoCard
end Rows
end Go.Proofs.YtijjagofingpdaaDoor
