/-
  Bound, in the reference.
-/
import Derived.Test.YtfgffkmddanjjaaGreatDoorDuS
import Derived.Test.YtfgffkmddanjjaaGreatDoorD5
import Derived.Test.YtfgffkmddanjjaaGreatDoorShelfE
import Derived.Test.YtfgffkmddanjjaaGreatDoorOQ
set_option linter.unusedVariables false
set_option linter.unusedSimpArgs false
namespace Go.Proofs.YtfgffkmddanjjaaGreatDoor
open Go.RowKit
section
variable {ops : Array Oper} {rest : List Oper} {o : Oper} {a : Act} {Q : Exit → Act → World → Prop}
end
section
variable {p : Prg} {y : List Qo}
end
def RepQ (w:World) (g n k:Nat) (v4:List Value):Prop :=
 ∃ xs,Row w g 32 xs/\xs.length=n * 4/\∀ j,j < k * 4->xs[j]?=v4[j % 4]?
theorem RepQ.mono {w w':World} {g n k:Nat} {v4:List Value} (h:RepQ w g n k v4) (hb:BH w w'):RepQ w' g n k v4:=by
 obtain ⟨xs,h1,h2,h3⟩:=h;exact ⟨xs,h1.below hb,h2,h3⟩
theorem RepQ.all {w:World} {g n:Nat} {n1:Bool} {a1:Option Addr} {l1 c1:Nat} {n2:Bool} {a2:Option Addr} {l2 c2:Nat} {o:Qo} (h:RepQ w g n n [.bool n1,.slice a1 l1 c1,.bool n2,.slice a2 l2 c2]) (hv:QV w (.agg #[.bool n1,.slice a1 l1 c1,.bool n2,.slice a2 l2 c2]) o):UQ w (some ⟨g,0,none⟩) (List.replicate n o):=by
 obtain ⟨xs,h1,h2,h3⟩:=h;intro i q hi;rw [List.getElem?_replicate] at hi
 split at hi
 ·next hlt =>
  cases hi
  have hc:∀ j u,xs[j]?=some u->w.cell? ⟨g,0 + j,none⟩=some u:=by
   intro j u hu;obtain ⟨hj,rfl⟩:=List.getElem?_eq_some_iff.1 hu;rw [Nat.zero_add]; exact h1.cell hj
  have e:∀ m,m < 4->(i * 4 + m) % 4=m:=λ m hm => by omega
  refine ⟨g,0,n1,a1,l1,c1,n2,a2,l2,c2,rfl,⟨hc (i * 4) _ ?_,hc (i * 4 + 1) _ ?_,hc (i * 4 + 2) _ ?_,hc (i * 4 + 3) _ ?_,trivial,trivial,trivial,trivial⟩,hv⟩
  ·rw [h3 _ (by omega)]; simp
  ·rw [h3 _ (by omega),e 1 (by omega)]; simp
  ·rw [h3 _ (by omega),e 2 (by omega)]; simp
  ·rw [h3 _ (by omega),e 3 (by omega)]; simp
 ·cases hi
end Go.Proofs.YtfgffkmddanjjaaGreatDoor
