/-
  DERIVED. GIVEN WITH THE SEED: THE CARDS: each row of YtackeigdehfmmaaGreatDoorRows.lean that lists a variable, with what it lists TIED to the program's text (the seventh form; the later family's looks); each row that meets fmt, with fmt's text TOLD by the authors' own Lean function (tested against real Go, not proved from fmt's source: count such statements apart). THE CARD IS WHAT COUNTS. Prove the row's statement (the work); the ties are given (YtackeigdehfmmaaGreatDoorTie.lean); close each card by the builder's one call (the guide's Derived/Test/ToyasCard.lean, 'card_holds'). Laid BY PROGRAM, IN A SANDBOX (cutbox-door.mjs). By AI agents, Wed Nov 11 2026. No macro, syntax, notation, axiom, sorry.
-/
import Derived.Test.YtackeigdehfmmaaGreatDoorRows
import GoSem.ClaimSeven
namespace Go.Proofs.YtackeigdehfmmaaGreatDoor
namespace Rows

/-- THE TIED CARD OF 'sederuntlaw33.WalAgain'. -/
def walAgainCard : Claim7 := { stood := { row := walAgainRow, standIns := [], harness := (true, "4abbca2162a01e15c23ae671a0e272f1328ea111f636cff03fb1997e5efe63b1"), looks := true }, kinds := [], alts := [], laidByText := true, laidKinds := [.data, .data, .data, .sentinel, .sentinel], laidTests := true, laidLooks := .later }
def WalAgainCardSaid : Prop := Claim7.holds Tryz.pinned (.plain (OpenSpec.ofChange walAgainSpec)) walAgainCard

/-- THE TIED CARD OF 'sederuntlaw33.WalScript'. -/
def walScriptCard : Claim7 := { stood := { row := walScriptRow, standIns := [], harness := (true, "4abbca2162a01e15c23ae671a0e272f1328ea111f636cff03fb1997e5efe63b1"), looks := true }, kinds := [], alts := [], laidByText := true, laidKinds := [.data, .data, .data, .sentinel, .sentinel], laidTests := true, laidLooks := .later }
def WalScriptCardSaid : Prop := Claim7.holds Tryz.pinned (.plain (OpenSpec.ofChange walScriptSpec)) walScriptCard

/-- THE TIED CARD OF 'sederuntlaw33.WalErrors'. -/
def walErrorsCard : Claim7 := { stood := { row := walErrorsRow, standIns := [], harness := (true, "4abbca2162a01e15c23ae671a0e272f1328ea111f636cff03fb1997e5efe63b1"), looks := true }, kinds := [], alts := [], laidByText := true, laidKinds := [.data, .data, .data, .sentinel, .sentinel], laidTests := true, laidLooks := .later }
def WalErrorsCardSaid : Prop := Claim7.holds Tryz.pinned (.plain (OpenSpec.ofChange walErrorsSpec)) walErrorsCard

/-- THE SECOND FORM's CARD OF 'sederuntlaw33.WalAgain'. -/
def walAgainUptoCard : Claim7 := { stood := { row := walAgainUptoRow, standIns := [], harness := (true, "4abbca2162a01e15c23ae671a0e272f1328ea111f636cff03fb1997e5efe63b1"), looks := true }, kinds := [], alts := [], laidByText := true, laidKinds := [.data, .data, .data, .sentinel, .sentinel], laidTests := true, laidLooks := .later }
def WalAgainUptoCardSaid : Prop := Claim7.holds Tryz.pinned (.plain (OpenSpec.upto walAgainSpec)) walAgainUptoCard

/-- THE SECOND FORM's CARD OF 'sederuntlaw33.WalScript'. -/
def walScriptUptoCard : Claim7 := { stood := { row := walScriptUptoRow, standIns := [], harness := (true, "4abbca2162a01e15c23ae671a0e272f1328ea111f636cff03fb1997e5efe63b1"), looks := true }, kinds := [], alts := [], laidByText := true, laidKinds := [.data, .data, .data, .sentinel, .sentinel], laidTests := true, laidLooks := .later }
def WalScriptUptoCardSaid : Prop := Claim7.holds Tryz.pinned (.plain (OpenSpec.upto walScriptSpec)) walScriptUptoCard

/-- THE SECOND FORM's CARD OF 'sederuntlaw33.WalErrors'. -/
def walErrorsUptoCard : Claim7 := { stood := { row := walErrorsUptoRow, standIns := [], harness := (true, "4abbca2162a01e15c23ae671a0e272f1328ea111f636cff03fb1997e5efe63b1"), looks := true }, kinds := [], alts := [], laidByText := true, laidKinds := [.data, .data, .data, .sentinel, .sentinel], laidTests := true, laidLooks := .later }
def WalErrorsUptoCardSaid : Prop := Claim7.holds Tryz.pinned (.plain (OpenSpec.upto walErrorsSpec)) walErrorsUptoCard
end Rows
end Go.Proofs.YtackeigdehfmmaaGreatDoor
