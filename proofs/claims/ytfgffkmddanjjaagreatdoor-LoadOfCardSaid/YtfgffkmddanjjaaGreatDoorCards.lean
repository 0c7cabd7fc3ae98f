/-
  DERIVED. GIVEN WITH THE SEED: THE CARDS: each row of YtfgffkmddanjjaaGreatDoorRows.lean that lists a variable, with what it lists TIED to the program's text (the seventh form; the later family's looks); each row that meets fmt, with fmt's text TOLD by the authors' own Lean function (tested against real Go, not proved from fmt's source: count such statements apart). THE CARD IS WHAT COUNTS. Prove the row's statement (the work); the ties are given (YtfgffkmddanjjaaGreatDoorTie.lean); close each card by the builder's one call (the guide's Derived/Test/ToyasCard.lean, 'card_holds'). Laid BY PROGRAM, IN A SANDBOX (cutbox-door.mjs). By AI agents, Wed Nov 11 2026. No macro, syntax, notation, axiom, sorry.
-/
import Derived.Test.YtfgffkmddanjjaaGreatDoorRows
import GoSem.ClaimSeven
namespace Go.Proofs.YtfgffkmddanjjaaGreatDoor
namespace Rows

/-- THE TIED CARD OF 'sederuntlaw15.LoadScaled'. -/
def loadScaledCard : Claim7 := { stood := { row := loadScaledRow, standIns := [], harness := (true, "465276bb05bc8636d2dafdc0f49b37fec9848f0e6468c26485b8d4f64346954d"), looks := false }, kinds := [], alts := [], laidByText := true, laidKinds := [.data, .data, .data], laidTests := true, laidLooks := .later }
def LoadScaledCardSaid : Prop := Claim7.holds Tryz.pinned (.plain (OpenSpec.ofChange loadScaledSpec)) loadScaledCard

/-- THE TIED CARD OF 'sederuntlaw15.LoadBounds'. -/
def loadBoundsCard : Claim7 := { stood := { row := loadBoundsRow, standIns := [], harness := (true, "465276bb05bc8636d2dafdc0f49b37fec9848f0e6468c26485b8d4f64346954d"), looks := false }, kinds := [], alts := [], laidByText := true, laidKinds := [.data, .data, .data], laidTests := true, laidLooks := .later }
def LoadBoundsCardSaid : Prop := Claim7.holds Tryz.pinned (.plain (OpenSpec.ofChange loadBoundsSpec)) loadBoundsCard

/-- THE TIED CARD OF 'sederuntlaw15.LoadFair'. -/
def loadFairCard : Claim7 := { stood := { row := loadFairRow, standIns := [], harness := (true, "465276bb05bc8636d2dafdc0f49b37fec9848f0e6468c26485b8d4f64346954d"), looks := false }, kinds := [], alts := [], laidByText := true, laidKinds := [.data, .data, .data], laidTests := true, laidLooks := .later }
def LoadFairCardSaid : Prop := Claim7.holds Tryz.pinned (.plain (OpenSpec.ofChange loadFairSpec)) loadFairCard

/-- THE TIED CARD OF 'sederuntlaw15.LoadOf'. -/
def loadOfCard : Claim7 := { stood := { row := loadOfRow, standIns := [], harness := (true, "465276bb05bc8636d2dafdc0f49b37fec9848f0e6468c26485b8d4f64346954d"), looks := false }, kinds := [], alts := [], laidByText := true, laidKinds := [.data, .data, .data], laidTests := true, laidLooks := .later }
def LoadOfCardSaid : Prop := Claim7.holds Tryz.pinned (.plain (OpenSpec.ofChange loadOfSpec)) loadOfCard

/-- THE TIED CARD OF 'sederuntlaw15.LoadBound'. -/
def loadBoundCard : Claim7 := { stood := { row := loadBoundRow, standIns := [], harness := (true, "465276bb05bc8636d2dafdc0f49b37fec9848f0e6468c26485b8d4f64346954d"), looks := false }, kinds := [], alts := [], laidByText := true, laidKinds := [.data, .data, .data], laidTests := true, laidLooks := .later }
def LoadBoundCardSaid : Prop := Claim7.holds Tryz.pinned (.plain (OpenSpec.ofChange loadBoundSpec)) loadBoundCard

/-- THE SECOND FORM's CARD OF 'sederuntlaw15.LoadScaled'. -/
def loadScaledUptoCard : Claim7 := { stood := { row := loadScaledUptoRow, standIns := [], harness := (true, "465276bb05bc8636d2dafdc0f49b37fec9848f0e6468c26485b8d4f64346954d"), looks := false }, kinds := [], alts := [], laidByText := true, laidKinds := [.data, .data, .data], laidTests := true, laidLooks := .later }
def LoadScaledUptoCardSaid : Prop := Claim7.holds Tryz.pinned (.plain (OpenSpec.upto loadScaledSpec)) loadScaledUptoCard

/-- THE SECOND FORM's CARD OF 'sederuntlaw15.LoadBounds'. -/
def loadBoundsUptoCard : Claim7 := { stood := { row := loadBoundsUptoRow, standIns := [], harness := (true, "465276bb05bc8636d2dafdc0f49b37fec9848f0e6468c26485b8d4f64346954d"), looks := false }, kinds := [], alts := [], laidByText := true, laidKinds := [.data, .data, .data], laidTests := true, laidLooks := .later }
def LoadBoundsUptoCardSaid : Prop := Claim7.holds Tryz.pinned (.plain (OpenSpec.upto loadBoundsSpec)) loadBoundsUptoCard

/-- THE SECOND FORM's CARD OF 'sederuntlaw15.LoadFair'. -/
def loadFairUptoCard : Claim7 := { stood := { row := loadFairUptoRow, standIns := [], harness := (true, "465276bb05bc8636d2dafdc0f49b37fec9848f0e6468c26485b8d4f64346954d"), looks := false }, kinds := [], alts := [], laidByText := true, laidKinds := [.data, .data, .data], laidTests := true, laidLooks := .later }
def LoadFairUptoCardSaid : Prop := Claim7.holds Tryz.pinned (.plain (OpenSpec.upto loadFairSpec)) loadFairUptoCard

/-- THE SECOND FORM's CARD OF 'sederuntlaw15.LoadOf'. -/
def loadOfUptoCard : Claim7 := { stood := { row := loadOfUptoRow, standIns := [], harness := (true, "465276bb05bc8636d2dafdc0f49b37fec9848f0e6468c26485b8d4f64346954d"), looks := false }, kinds := [], alts := [], laidByText := true, laidKinds := [.data, .data, .data], laidTests := true, laidLooks := .later }
def LoadOfUptoCardSaid : Prop := Claim7.holds Tryz.pinned (.plain (OpenSpec.upto loadOfSpec)) loadOfUptoCard

/-- THE SECOND FORM's CARD OF 'sederuntlaw15.LoadBound'. -/
def loadBoundUptoCard : Claim7 := { stood := { row := loadBoundUptoRow, standIns := [], harness := (true, "465276bb05bc8636d2dafdc0f49b37fec9848f0e6468c26485b8d4f64346954d"), looks := false }, kinds := [], alts := [], laidByText := true, laidKinds := [.data, .data, .data], laidTests := true, laidLooks := .later }
def LoadBoundUptoCardSaid : Prop := Claim7.holds Tryz.pinned (.plain (OpenSpec.upto loadBoundSpec)) loadBoundUptoCard
end Rows
end Go.Proofs.YtfgffkmddanjjaaGreatDoor
