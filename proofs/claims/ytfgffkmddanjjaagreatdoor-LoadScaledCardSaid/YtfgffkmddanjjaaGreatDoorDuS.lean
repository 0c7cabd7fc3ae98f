/-
  Optimal and Gap, in the program and in the reference.
-/
import Derived.Test.YtfgffkmddanjjaaGreatDoorD5
set_option linter.unusedVariables false
set_option linter.unusedSimpArgs false
namespace Go.Proofs.YtfgffkmddanjjaaGreatDoor
open Go.RowKit
theorem zcz (z:Int):zaU z=0↔z=0:=by
 unfold zaU
 split
 ·next h => simp [h]
 ·split
  ·next h h2 => simp [h]
  ·next h h2 => simp [h]
theorem getD_of {α:Type} {l:List α} {k:Nat} {a d:α} (h:l[k]?=some a):l.getD k d=a:=by
 rw [List.getD_eq_getElem?_getD,h]; rfl
theorem zfF.rat {w:World} {r:Rat} {e:Ending} (h:zfF w r e):∃ ng ao n cap nh ap m caq,e=.returned (.agg #[.bool ng,.slice ao n cap,.bool nh,.slice ap m caq])/\zac w (qA ng ao n cap nh ap m caq) r:=by
 obtain ⟨ng,ao,n,cap,nh,ap,m,caq,e,h1,h2⟩:=h;exact ⟨ng,ao,n,cap,nh,ap,m,caq,e,ng,ao,n,cap,nh,ap,m,caq,rfl,h1.out,h2.out⟩
end Go.Proofs.YtfgffkmddanjjaaGreatDoor
