/-
  DERIVED. GIVEN WITH THE SEED: THE CARDS: each row of YtileholjbdhmjaaGreatDoorRows.lean that lists a variable, with what it lists TIED to the program's text (the seventh form; the later family's looks); each row that meets fmt, with fmt's text TOLD by the authors' own Lean function (tested against real Go, not proved from fmt's source: count such statements apart). THE CARD IS WHAT COUNTS. Prove the row's statement (the work); the ties are given (YtileholjbdhmjaaGreatDoorTie.lean); close each card by the builder's one call (the guide's Derived/Test/ToyasCard.lean, 'card_holds'). Laid BY PROGRAM, IN A SANDBOX (cutbox-door.mjs). By AI agents, Wed Nov 11 2026. No macro, syntax, notation, axiom, sorry.
-/
import Derived.Test.YtileholjbdhmjaaGreatDoorRows
import GoSem.ClaimSeven
namespace Go.Proofs.YtileholjbdhmjaaGreatDoor
namespace Rows

/-- THE TIED CARD OF 'sederuntlaw13.SimplexSolve'. -/
def simplexSolveCard : Claim7 := { stood := { row := simplexSolveRow, standIns := [], harness := (true, "b938bbb787e255efd63199b2fbf8cb510af7773af4cc97dba447a954d261ebf1"), looks := false }, kinds := [], alts := [], laidByText := true, laidKinds := [.data, .data, .data], laidTests := true, laidLooks := .later }
def SimplexSolveCardSaid : Prop := Claim7.holds Tryz.pinned (.plain (OpenSpec.ofChange simplexSolveSpec)) simplexSolveCard

/-- THE TIED CARD OF 'sederuntlaw13.SimplexBest'. -/
def simplexBestCard : Claim7 := { stood := { row := simplexBestRow, standIns := [], harness := (true, "b938bbb787e255efd63199b2fbf8cb510af7773af4cc97dba447a954d261ebf1"), looks := false }, kinds := [], alts := [], laidByText := true, laidKinds := [.data, .data, .data], laidTests := true, laidLooks := .later }
def SimplexBestCardSaid : Prop := Claim7.holds Tryz.pinned (.plain (OpenSpec.ofChange simplexBestSpec)) simplexBestCard

/-- THE TIED CARD OF 'sederuntlaw13.SimplexExchange'. -/
def simplexExchangeCard : Claim7 := { stood := { row := simplexExchangeRow, standIns := [], harness := (true, "b938bbb787e255efd63199b2fbf8cb510af7773af4cc97dba447a954d261ebf1"), looks := false }, kinds := [], alts := [], laidByText := true, laidKinds := [.data, .data, .data], laidTests := true, laidLooks := .later }
def SimplexExchangeCardSaid : Prop := Claim7.holds Tryz.pinned (.plain (OpenSpec.ofChange simplexExchangeSpec)) simplexExchangeCard

/-- THE TIED CARD OF 'sederuntlaw13.SimplexScale'. -/
def simplexScaleCard : Claim7 := { stood := { row := simplexScaleRow, standIns := [], harness := (true, "b938bbb787e255efd63199b2fbf8cb510af7773af4cc97dba447a954d261ebf1"), looks := false }, kinds := [], alts := [], laidByText := true, laidKinds := [.data, .data, .data], laidTests := true, laidLooks := .later }
def SimplexScaleCardSaid : Prop := Claim7.holds Tryz.pinned (.plain (OpenSpec.ofChange simplexScaleSpec)) simplexScaleCard

/-- THE TIED CARD OF 'sederuntlaw13.SimplexDual'. -/
def simplexDualCard : Claim7 := { stood := { row := simplexDualRow, standIns := [], harness := (true, "b938bbb787e255efd63199b2fbf8cb510af7773af4cc97dba447a954d261ebf1"), looks := false }, kinds := [], alts := [], laidByText := true, laidKinds := [.data, .data, .data], laidTests := true, laidLooks := .later }
def SimplexDualCardSaid : Prop := Claim7.holds Tryz.pinned (.plain (OpenSpec.ofChange simplexDualSpec)) simplexDualCard

/-- THE TIED CARD OF 'sederuntlaw13.SimplexBound'. -/
def simplexBoundCard : Claim7 := { stood := { row := simplexBoundRow, standIns := [], harness := (true, "b938bbb787e255efd63199b2fbf8cb510af7773af4cc97dba447a954d261ebf1"), looks := false }, kinds := [], alts := [], laidByText := true, laidKinds := [.data, .data, .data], laidTests := true, laidLooks := .later }
def SimplexBoundCardSaid : Prop := Claim7.holds Tryz.pinned (.plain (OpenSpec.ofChange simplexBoundSpec)) simplexBoundCard

/-- THE TIED CARD OF 'sederuntlaw13.SimplexErrors'. -/
def simplexErrorsCard : Claim7 := { stood := { row := simplexErrorsRow, standIns := [], harness := (true, "b938bbb787e255efd63199b2fbf8cb510af7773af4cc97dba447a954d261ebf1"), looks := false }, kinds := [], alts := [], laidByText := true, laidKinds := [.data, .data, .data], laidTests := true, laidLooks := .later }
def SimplexErrorsCardSaid : Prop := Claim7.holds Tryz.pinned (.plain (OpenSpec.ofChange simplexErrorsSpec)) simplexErrorsCard

/-- THE SECOND FORM's CARD OF 'sederuntlaw13.SimplexSolve'. -/
def simplexSolveUptoCard : Claim7 := { stood := { row := simplexSolveUptoRow, standIns := [], harness := (true, "b938bbb787e255efd63199b2fbf8cb510af7773af4cc97dba447a954d261ebf1"), looks := false }, kinds := [], alts := [], laidByText := true, laidKinds := [.data, .data, .data], laidTests := true, laidLooks := .later }
def SimplexSolveUptoCardSaid : Prop := Claim7.holds Tryz.pinned (.plain (OpenSpec.upto simplexSolveSpec)) simplexSolveUptoCard

/-- THE SECOND FORM's CARD OF 'sederuntlaw13.SimplexBest'. -/
def simplexBestUptoCard : Claim7 := { stood := { row := simplexBestUptoRow, standIns := [], harness := (true, "b938bbb787e255efd63199b2fbf8cb510af7773af4cc97dba447a954d261ebf1"), looks := false }, kinds := [], alts := [], laidByText := true, laidKinds := [.data, .data, .data], laidTests := true, laidLooks := .later }
def SimplexBestUptoCardSaid : Prop := Claim7.holds Tryz.pinned (.plain (OpenSpec.upto simplexBestSpec)) simplexBestUptoCard

/-- THE SECOND FORM's CARD OF 'sederuntlaw13.SimplexExchange'. -/
def simplexExchangeUptoCard : Claim7 := { stood := { row := simplexExchangeUptoRow, standIns := [], harness := (true, "b938bbb787e255efd63199b2fbf8cb510af7773af4cc97dba447a954d261ebf1"), looks := false }, kinds := [], alts := [], laidByText := true, laidKinds := [.data, .data, .data], laidTests := true, laidLooks := .later }
def SimplexExchangeUptoCardSaid : Prop := Claim7.holds Tryz.pinned (.plain (OpenSpec.upto simplexExchangeSpec)) simplexExchangeUptoCard

/-- THE SECOND FORM's CARD OF 'sederuntlaw13.SimplexScale'. -/
def simplexScaleUptoCard : Claim7 := { stood := { row := simplexScaleUptoRow, standIns := [], harness := (true, "b938bbb787e255efd63199b2fbf8cb510af7773af4cc97dba447a954d261ebf1"), looks := false }, kinds := [], alts := [], laidByText := true, laidKinds := [.data, .data, .data], laidTests := true, laidLooks := .later }
def SimplexScaleUptoCardSaid : Prop := Claim7.holds Tryz.pinned (.plain (OpenSpec.upto simplexScaleSpec)) simplexScaleUptoCard

/-- THE SECOND FORM's CARD OF 'sederuntlaw13.SimplexDual'. -/
def simplexDualUptoCard : Claim7 := { stood := { row := simplexDualUptoRow, standIns := [], harness := (true, "b938bbb787e255efd63199b2fbf8cb510af7773af4cc97dba447a954d261ebf1"), looks := false }, kinds := [], alts := [], laidByText := true, laidKinds := [.data, .data, .data], laidTests := true, laidLooks := .later }
def SimplexDualUptoCardSaid : Prop := Claim7.holds Tryz.pinned (.plain (OpenSpec.upto simplexDualSpec)) simplexDualUptoCard

/-- THE SECOND FORM's CARD OF 'sederuntlaw13.SimplexBound'. -/
def simplexBoundUptoCard : Claim7 := { stood := { row := simplexBoundUptoRow, standIns := [], harness := (true, "b938bbb787e255efd63199b2fbf8cb510af7773af4cc97dba447a954d261ebf1"), looks := false }, kinds := [], alts := [], laidByText := true, laidKinds := [.data, .data, .data], laidTests := true, laidLooks := .later }
def SimplexBoundUptoCardSaid : Prop := Claim7.holds Tryz.pinned (.plain (OpenSpec.upto simplexBoundSpec)) simplexBoundUptoCard

/-- THE SECOND FORM's CARD OF 'sederuntlaw13.SimplexErrors'. -/
def simplexErrorsUptoCard : Claim7 := { stood := { row := simplexErrorsUptoRow, standIns := [], harness := (true, "b938bbb787e255efd63199b2fbf8cb510af7773af4cc97dba447a954d261ebf1"), looks := false }, kinds := [], alts := [], laidByText := true, laidKinds := [.data, .data, .data], laidTests := true, laidLooks := .later }
def SimplexErrorsUptoCardSaid : Prop := Claim7.holds Tryz.pinned (.plain (OpenSpec.upto simplexErrorsSpec)) simplexErrorsUptoCard
end Rows
end Go.Proofs.YtileholjbdhmjaaGreatDoor
