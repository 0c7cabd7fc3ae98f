/-
  Bound, in the reference.
-/
import Derived.Test.YtileholjbdhmjaaGreatDoorDuS
import Derived.Test.YtileholjbdhmjaaGreatDoorD5
import Derived.Test.YtileholjbdhmjaaGreatDoorShelfE
import Derived.Test.YtileholjbdhmjaaGreatDoorOQ
import Derived.Test.YtileholjbdhmjaaGreatDoorShelfF
set_option linter.unusedVariables false
set_option linter.unusedSimpArgs false
namespace Go.Proofs.YtileholjbdhmjaaGreatDoor
open Go.RowKit
section
variable {ops : Array Oper} {rest : List Oper} {o : Oper} {a : Act} {Q : Exit → Act → World → Prop}
end
section
variable {p : Prg} {y : List Qo}
end
def RepQ (w:World) (g n k:Nat) (v4:List Value):Prop :=
 ∃ xs,Row w g 38 xs∧xs.length=n * 4∧∀ j,j < k * 4→xs[j]?=v4[j % 4]?
theorem RepQ.mono {w w':World} {g n k:Nat} {v4:List Value} (h:RepQ w g n k v4) (hb:Below w.heap.size w w'):RepQ w' g n k v4:=by
 obtain ⟨xs,h1,h2,h3⟩:=h;exact ⟨xs,h1.below hb,h2,h3⟩
theorem add_off (g o j:Nat):(⟨g,o,none⟩:Addr).add j=⟨g,o + j,none⟩:=by
 unfold Addr.add; split
 ·subst j; rfl
 ·rfl
theorem RepQ.all {w:World} {g n:Nat} {n1:Bool} {a1:Option Addr} {l1 c1:Nat} {n2:Bool} {a2:Option Addr} {l2 c2:Nat} {o:Qo} (h:RepQ w g n n [.bool n1,.slice a1 l1 c1,.bool n2,.slice a2 l2 c2]) (hv:QV w (.agg #[.bool n1,.slice a1 l1 c1,.bool n2,.slice a2 l2 c2]) o):UQ w (some ⟨g,0,none⟩) (List.replicate n o):=by
 obtain ⟨xs,h1,h2,h3⟩:=h;intro i q hi;rw [List.getElem?_replicate] at hi
 split at hi
 ·next hlt =>
  cases hi
  have hc:∀ j u,xs[j]?=some u→w.cell? ⟨g,0 + j,none⟩=some u:=by
   intro j u hu;obtain ⟨hj,rfl⟩:=List.getElem?_eq_some_iff.1 hu;rw [Nat.zero_add]; exact h1.cell hj
  have e:∀ m,m < 4→(i * 4 + m) % 4=m:=fun m hm => by omega
  refine ⟨g,0,n1,a1,l1,c1,n2,a2,l2,c2,rfl,⟨hc (i * 4) _ ?_,hc (i * 4 + 1) _ ?_,hc (i * 4 + 2) _ ?_,hc (i * 4 + 3) _ ?_,trivial,trivial,trivial,trivial⟩,hv⟩
  ·rw [h3 _ (by omega)]; simp
  ·rw [h3 _ (by omega),e 1 (by omega)]; simp
  ·rw [h3 _ (by omega),e 2 (by omega)]; simp
  ·rw [h3 _ (by omega),e 3 (by omega)]; simp
 ·cases hi
def sv (s:List UInt8):Value:=.string ⟨s.toArray⟩
def US (w:World) (ao:Option Addr) (l:List (List UInt8)):Prop :=
 ∀ i s,l[i]?=some s→∃ b off,ao=some ⟨b,off,none⟩∧w.cell? ⟨b,off + i,none⟩=some (.string ⟨s.toArray⟩)
theorem US.mono {w w':World} {ao:Option Addr} {l:List (List UInt8)} (h:US w ao l) (hb:Below w.heap.size w w'):US w' ao l:=by
 intro i s hi;obtain ⟨b,off,e,hc⟩:=h i s hi;exact ⟨b,off,e,(hb.cell (cell_lt hc)).trans hc⟩
theorem US.nil (w:World) (ao:Option Addr):US w ao []:=fun i s h => by simp at h
def OwnT (w:World) (B:Nat) (v:Value) (l:List (List UInt8)):Prop:=w.ownsRow B 9 1 v l.length (l.map sv)
theorem OwnT.nil (w:World) (B:Nat):OwnT w B (.slice none 0 0) []:=World.ownsRow_nil _ _ _ _
theorem OwnT.mono {w w':World} {B:Nat} {v:Value} {l:List (List UInt8)} (h:OwnT w B v l) (hb:Below w.heap.size w w'):OwnT w' B v l:=ownsRow_below h hb
theorem OwnT.read {w:World} {B:Nat} {v:Value} {l:List (List UInt8)} (h:OwnT w B v l):∃ ao cap,v=.slice ao l.length cap∧l.length≤cap∧US w ao l:=by
 have h1:=h;rcases h1.2 with ⟨rfl,hn⟩ | ⟨g,cap,cur,rfl,hB,hg,hnc,hcm,hcs,htake⟩
 ·have:l=[]:=List.eq_nil_of_length_eq_zero hn;subst this;exact ⟨none,0,rfl,nl,US.nil _ _⟩
 ·refine ⟨some ⟨g,0,none⟩,cap,rfl,hnc,?_⟩;intro i s hi;have:=h.cells (g:=g) rfl i (sv s) (by simp [hi]);have ha:(⟨g,0,none⟩:Addr).add i=⟨g,0 + i,none⟩:=add_off g 0 i;rw [ha] at this;exact ⟨g,0,rfl,this⟩
section
variable {ops : Array Oper} {rest : List Oper} {o : Oper} {a : Act} {Q : Exit → Act → World → Prop}
end
theorem UQ.one {w:World} {g:Nat} {n1:Bool} {a1:Option Addr} {l1 c1:Nat} {n2:Bool} {a2:Option Addr} {l2 c2:Nat} {o:Option Rat} (B:Box4 w g (.bool n1) (.slice a1 l1 c1) (.bool n2) (.slice a2 l2 c2)) (h:QV w (.agg #[.bool n1,.slice a1 l1 c1,.bool n2,.slice a2 l2 c2]) o) :
  UQ w (some ⟨g,0,none⟩) [o]:=by
 intro i o' hi
 match i,hi with
 | 0,hi =>
  simp at hi; subst hi;exact ⟨g,0,n1,a1,l1,c1,n2,a2,l2,c2,rfl,⟨B.c0,B.c1,B.c2,B.c3,trivial,trivial,trivial,trivial⟩,h⟩
 | i + 1,hi => simp at hi
def textO:Qo→List UInt8
 | some r => Rq.textQ r
 | none => []
theorem RatV.sm {w:World} {v:Value} {r:Rat} (h:RatV w v r):Rq.Sm r.num∧Rq.Sm (r.den:Int):=by
 obtain ⟨n1,a1,l1,c1,n2,a2,l2,c2,e,h1,h2⟩:=h;exact ⟨h1.small,h2.small⟩
def ShortT (l:List Qo):Prop:=∀ o∈l,(textO o).length≤700
theorem UQ.short {w:World} {ao:Option Addr} {l:List Qo} (h:UQ w ao l):ShortT l:=by
 intro o ho;obtain ⟨i,hi⟩:=List.getElem?_of_mem ho;obtain ⟨_,_,_,_,_,_,_,_,_,_,_,_,hq⟩:=h i o hi
 cases o with
 | none => simp [textO]
 | some r =>
  have:=RatV.sm (hq:RatV _ _ r);exact Rq.textQ_len this.1 this.2
def zq (l:List Int):List Qo:=l.map fun n:Int => some (n:Rat)
theorem Sx.kk {r:Rat} (h:Sx r):Rq.Bd r (KK ^ 5) (KK ^ 5):=by
 have hs:=kk_sh;have h1:KK≤KK ^ 5:=by have:=kk_le (i:=1) (j:=5) (by omega); rwa [Nat.pow_one] at this
 exact ⟨Nat.le_trans h.1 (by omega),Nat.le_trans h.2 (by omega)⟩
def zP (A:List (List Int)) (B C:List Int):Prg:=⟨A.map zq,zq B,zq C⟩
def pA:Prg:=zP [[1,1],[1,0]] [4,3] [3,2]
def qA:Prg:=zP [[-1,1]] [0] [3,2]
end Go.Proofs.YtileholjbdhmjaaGreatDoor
