/-
  Optimal and Gap, in the program and in the reference.
-/
import Derived.Test.YtfgffkmddanjjaaGreatDoorD5
set_option linter.unusedVariables false
set_option linter.unusedSimpArgs false
namespace Go.Proofs.YtfgffkmddanjjaaGreatDoor
open Go.RowKit
def ResE (r:Nat × Rat) (w':World) (e:Ending):Prop:=if r.1=0 then GotQ w' r.2 e else NoQ r.1 e
theorem ResE.no {r:Nat × Rat} {k:Nat} {w':World} {e:Ending} (hr:r=(k,0)) (hk:k ≠ 0) (h:NoQ k e):ResE r w' e:=by
 unfold ResE; rw [hr,if_neg hk]; exact h
theorem ResE.got {r:Nat × Rat} {q:Rat} {w':World} {e:Ending} (hr:r=(0,q)) (h:GotQ w' q e):ResE r w' e:=by
 unfold ResE; rw [hr,if_pos rfl]; exact h
section
variable {p : Prg} {x y : List Qo}
end
section
variable {p : Prg} {x y : List Qo}
end
theorem sgnI_zero (z:Int):sgnI z=0↔z=0:=by
 unfold sgnI
 split
 ·next h => simp [h]
 ·split
  ·next h h2 => simp [h]
  ·next h h2 => simp [h]
theorem getD_of {α:Type} {l:List α} {k:Nat} {a d:α} (h:l[k]?=some a):l.getD k d=a:=by
 rw [List.getD_eq_getElem?_getD,h]; rfl
section
variable {p : Prg} {x y : List Qo}
end
section
variable {p : Prg} {x : List Qo}
end
theorem GotR.rat {w:World} {r:Rat} {e:Ending} (h:GotR w r e):∃ ng ao n cap nh ap m caq,e=.returned (.agg #[.bool ng,.slice ao n cap,.bool nh,.slice ap m caq])/\RatV w (.agg #[.bool ng,.slice ao n cap,.bool nh,.slice ap m caq]) r:=by
 obtain ⟨ng,ao,n,cap,nh,ap,m,caq,e,h1,h2⟩:=h;exact ⟨ng,ao,n,cap,nh,ap,m,caq,e,ng,ao,n,cap,nh,ap,m,caq,rfl,h1.out,h2.out⟩
end Go.Proofs.YtfgffkmddanjjaaGreatDoor
