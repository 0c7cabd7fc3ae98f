/-
  Programs and lists as they come in; Few and Short.
-/
import Derived.Test.YtileholjbdhmjaaGreatDoorDuV
set_option linter.unusedVariables false
set_option linter.unusedSimpArgs false
namespace Go.Proofs.YtileholjbdhmjaaGreatDoor
open Go.RowKit
def RawFour (w:World) (b off:Nat):Prop:=∃ (n1:Bool) (a1:Option Addr) (L1:List Nat) (c1:Nat) (n2:Bool) (a2:Option Addr) (L2:List Nat) (c2:Nat),
 Four w b off (.bool n1) (.slice a1 L1.length c1) (.bool n2) (.slice a2 L2.length c2)∧L1.length≤c1∧L2.length≤c2∧U w a1 L1∧U w a2 L2
theorem RawFour.mono {w w':World} {b off:Nat} (h:RawFour w b off) (hb:Below w.heap.size w w'):RawFour w' b off:=by
 obtain ⟨n1,a1,L1,c1,n2,a2,L2,c2,F,k1,k2,u1,u2⟩:=h;exact ⟨n1,a1,L1,c1,n2,a2,L2,c2,F.mono hb,k1,k2,u1.mono hb,u2.mono hb⟩
def RawU (w:World) (ao:Option Addr) (n:Nat):Prop:=∀ i,i < n→∃ b off,ao=some ⟨b,off,none⟩∧RawFour w b (off + i * 4)
theorem RawU.mono {w w':World} {ao:Option Addr} {n:Nat} (h:RawU w ao n) (hb:Below w.heap.size w w'):RawU w' ao n:=fun i hi => by
 obtain ⟨b,off,e,h⟩:=h i hi;exact ⟨b,off,e,h.mono hb⟩
def RawM (w:World) (ao:Option Addr) (m:Nat):Prop:=∀ i,i < m→∃ b off ar n cr,ao=some ⟨b,off,none⟩∧w.cell? ⟨b,off + i,none⟩=some (.slice ar n cr)∧n≤9223372036854775807∧RawU w ar n
theorem RawM.mono {w w':World} {ao:Option Addr} {n:Nat} (h:RawM w ao n) (hb:Below w.heap.size w w'):RawM w' ao n:=fun i hi => by
 obtain ⟨b,off,ar,n,cr,e,hc,hn,h⟩:=h i hi;exact ⟨b,off,ar,n,cr,e,(hb.cell (cell_lt hc)).trans hc,hn,h.mono hb⟩
def RowsAt (w:World) (ao:Option Addr) (n:Nat):Prop:=∀ i,i < n→∃ row:List Qo,row.length≤8∧∃ b off ar cr,ao=some ⟨b,off,none⟩∧w.cell? ⟨b,off + i,none⟩=some (.slice ar row.length cr)∧UQ w ar row
theorem RowsAt.mono {w w':World} {ao:Option Addr} {n:Nat} (h:RowsAt w ao n) (hb:Below w.heap.size w w'):RowsAt w' ao n:=fun i hi => by
 obtain ⟨row,hl,b,off,ar,cr,e,hc,hu⟩:=h i hi;exact ⟨row,hl,b,off,ar,cr,e,(hb.cell (cell_lt hc)).trans hc,hu.mono hb⟩
end Go.Proofs.YtileholjbdhmjaaGreatDoor
