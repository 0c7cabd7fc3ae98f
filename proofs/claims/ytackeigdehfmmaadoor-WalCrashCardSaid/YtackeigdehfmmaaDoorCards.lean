/-
  DERIVED. GIVEN WITH THE SEED: THE CARDS: each row of YtackeigdehfmmaaDoorRows.lean that lists a variable, with what it lists TIED to the program's text (the seventh form; the later family's looks); each row that meets fmt, with fmt's text TOLD by the authors' own Lean function (tested against real Go, not proved from fmt's source: count such statements apart). THE CARD IS WHAT COUNTS. Prove the row's statement (the work); the ties are given (YtackeigdehfmmaaDoorTie.lean); close each card by the builder's one call (the guide's Derived/Test/ToyasCard.lean, 'card_holds'). Laid BY PROGRAM, IN A SANDBOX (cutbox-door.mjs). By AI agents, Wed Nov 11 2026. No macro, syntax, notation, axiom, sorry.
-/
import Derived.Test.YtackeigdehfmmaaDoorRows
import GoSem.ClaimSeven
namespace Go.Proofs.YtackeigdehfmmaaDoor
namespace Rows

/-- THE TIED CARD OF 'sederuntlaw33.WalEncode'. -/
def walEncodeCard : Claim7 := { stood := { row := walEncodeRow, standIns := [], harness := (true, "62945bd73d705ec819ffc5d4a0f90299fa8245a5652967c5ebfd3cb841dd3131"), looks := true }, kinds := [], alts := [], laidByText := true, laidKinds := [.data, .data, .data, .sentinel, .sentinel], laidTests := true, laidLooks := .later }
def WalEncodeCardSaid : Prop := Claim7.holds Tryd.pinned (.plain (OpenSpec.ofChange walEncodeSpec)) walEncodeCard

/-- THE TIED CARD OF 'sederuntlaw33.WalDecode'. -/
def walDecodeCard : Claim7 := { stood := { row := walDecodeRow, standIns := [], harness := (true, "62945bd73d705ec819ffc5d4a0f90299fa8245a5652967c5ebfd3cb841dd3131"), looks := true }, kinds := [], alts := [], laidByText := true, laidKinds := [.data, .data, .data, .sentinel, .sentinel], laidTests := true, laidLooks := .later }
def WalDecodeCardSaid : Prop := Claim7.holds Tryd.pinned (.plain (OpenSpec.ofChange walDecodeSpec)) walDecodeCard

/-- THE TIED CARD OF 'sederuntlaw33.WalCrash'. -/
def walCrashCard : Claim7 := { stood := { row := walCrashRow, standIns := [], harness := (true, "62945bd73d705ec819ffc5d4a0f90299fa8245a5652967c5ebfd3cb841dd3131"), looks := true }, kinds := [], alts := [], laidByText := true, laidKinds := [.data, .data, .data, .sentinel, .sentinel], laidTests := true, laidLooks := .later }
def WalCrashCardSaid : Prop := Claim7.holds Tryd.pinned (.plain (OpenSpec.ofChange walCrashSpec)) walCrashCard

/-- THE SECOND FORM's CARD OF 'sederuntlaw33.WalEncode'. -/
def walEncodeUptoCard : Claim7 := { stood := { row := walEncodeUptoRow, standIns := [], harness := (true, "62945bd73d705ec819ffc5d4a0f90299fa8245a5652967c5ebfd3cb841dd3131"), looks := true }, kinds := [], alts := [], laidByText := true, laidKinds := [.data, .data, .data, .sentinel, .sentinel], laidTests := true, laidLooks := .later }
def WalEncodeUptoCardSaid : Prop := Claim7.holds Tryd.pinned (.plain (OpenSpec.upto walEncodeSpec)) walEncodeUptoCard

/-- THE SECOND FORM's CARD OF 'sederuntlaw33.WalDecode'. -/
def walDecodeUptoCard : Claim7 := { stood := { row := walDecodeUptoRow, standIns := [], harness := (true, "62945bd73d705ec819ffc5d4a0f90299fa8245a5652967c5ebfd3cb841dd3131"), looks := true }, kinds := [], alts := [], laidByText := true, laidKinds := [.data, .data, .data, .sentinel, .sentinel], laidTests := true, laidLooks := .later }
def WalDecodeUptoCardSaid : Prop := Claim7.holds Tryd.pinned (.plain (OpenSpec.upto walDecodeSpec)) walDecodeUptoCard

/-- THE SECOND FORM's CARD OF 'sederuntlaw33.WalCrash'. -/
def walCrashUptoCard : Claim7 := { stood := { row := walCrashUptoRow, standIns := [], harness := (true, "62945bd73d705ec819ffc5d4a0f90299fa8245a5652967c5ebfd3cb841dd3131"), looks := true }, kinds := [], alts := [], laidByText := true, laidKinds := [.data, .data, .data, .sentinel, .sentinel], laidTests := true, laidLooks := .later }
def WalCrashUptoCardSaid : Prop := Claim7.holds Tryd.pinned (.plain (OpenSpec.upto walCrashSpec)) walCrashUptoCard
end Rows
end Go.Proofs.YtackeigdehfmmaaDoor
