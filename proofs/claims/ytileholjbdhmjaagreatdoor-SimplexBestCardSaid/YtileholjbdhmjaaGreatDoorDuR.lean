/-
  Optimal and Gap, in the program and in the reference.
-/
import Derived.Test.YtileholjbdhmjaaGreatDoorD5
set_option linter.unusedVariables false
set_option linter.unusedSimpArgs false
namespace Go.Proofs.YtileholjbdhmjaaGreatDoor
open Go.RowKit
def ResE (r:Nat × Rat) (w':World) (e:Ending):Prop:=if r.1=0 then GotQ w' r.2 e else NoQ r.1 e
theorem ResE.no {r:Nat × Rat} {k:Nat} {w':World} {e:Ending} (hr:r=(k,0)) (hk:k ≠ 0) (h:NoQ k e):ResE r w' e:=by
 unfold ResE; rw [hr,if_neg hk]; exact h
section
variable {p : Prg} {x y : List Qo}
end
section
variable {p : Prg} {x y : List Qo}
end
end Go.Proofs.YtileholjbdhmjaaGreatDoor
