/-
  The reference's rank: its regions, each over a frame of variables.
-/
import Derived.Test.YtileholjbdhmjaaGreatDoorTa
import Derived.Test.YtileholjbdhmjaaGreatDoorFlowX
import Derived.Test.YtileholjbdhmjaaGreatDoorFlowS
import Derived.Test.YtileholjbdhmjaaGreatDoorSc
import Derived.Test.YtileholjbdhmjaaGreatDoorRq
import Derived.Test.YtileholjbdhmjaaGreatDoorRj
set_option linter.unusedVariables false
set_option linter.unusedSimpArgs false
set_option maxRecDepth 100000
set_option maxHeartbeats 25600000
namespace Go.Proofs.YtileholjbdhmjaaGreatDoor
open Go.RowKit
def FT (r:Rat):(Nat->Prop)->World->Value->Prop:=λ _ W v => ∃ a,v=.tuple #[a,.int .i64 0]/\RatV W a r
theorem TG.rw {W:World} {B g m n:Nat} {vA vB:Value} {bs:List Nat} {ow:List (Value × List Qo)} {L:Nat->Nat->Rat} (h:TG W B g vA vB bs ow) (how:ow.map (·.2)=(List.range m).map λ i => rowQ L i n) (hm:0 < m) (hn:0 < n) :
  ∃ ga ca rr cr,vA=.slice (some ⟨ga,0,none⟩) m ca/\RW W B ga ca m n rr cr L:=by
 have hlo:ow.length=m:=by have:=congrArg List.length how; simpa using this
 have hget:∀ i,i < m->∃ p,ow[i]?=some p/\p.2=rowQ L i n:=λ i hi => by
  have hi':i < ow.length:=by omega
  refine ⟨ow[i],gE hi',?_⟩;have h1:=congrArg (λ l => l[i]?) how;simp only [List.getElem?_map,gE hi',List.getElem?_range hi,Option.map_some,Option.some.injEq] at h1;exact h1
 have hex:∀ i,∃ rc:Nat × Nat,i < m->ow[i]?=some (.slice (some ⟨rc.1,0,none⟩) n rc.2,rowQ L i n):=λ i => by
  by_cases hi:i < m
  ·obtain ⟨p,hp,e⟩:=hget i hi;obtain ⟨g',cap,e2⟩:=(h.o p (List.mem_of_getElem? hp)).1.addr' (by rw [e,rowQ_length]; omega);rw [e,rowQ_length] at e2;refine ⟨(g',cap),λ _ => ?_⟩;rw [hp]; exact congrArg some (Prod.ext e2 e)
  ·exact ⟨(0,0),λ h => absurd h hi⟩
 obtain ⟨rc,hrc⟩:=Classical.axiomOfChoice hex;obtain ⟨ga,ca,eA⟩:∃ ga ca,vA=.slice (some ⟨ga,0,none⟩) m ca:=by
  rcases h.oA.1.2 with ⟨_,hn⟩ | ⟨g',cap,cur,e,_⟩
  ·rw [List.length_map,hlo] at hn; omega
  ·rw [List.length_map,hlo] at e; exact ⟨g',cap,e⟩
 subst eA;have hmem:∀ i,i < m->(Value.slice (some ⟨(rc i).1,0,none⟩) n (rc i).2,rowQ L i n)∈ow:=λ i hi => List.mem_of_getElem? (hrc i hi)
 have exs:ow.map (·.1)=rsl (λ i => (rc i).1) (λ i => (rc i).2) n m:=by
  refine List.ext_getElem? λ c => ?_
  by_cases hc:c < m
  ·rw [rsl_get hc,List.getElem?_map,hrc c hc]; rfl
  ·rw [List.getElem?_eq_none (by rw [List.length_map]; omega),List.getElem?_eq_none (by rw [rsl_len]; omega)]
 refine ⟨ga,ca,λ i => (rc i).1,λ i => (rc i).2,rfl,?_,h.oA.2,λ i hi => (h.o _ (hmem i hi)).1,λ i t hi ht' e => ?_,λ i hi e => (h.o _ (hmem i hi)).2.1 ga rfl (by rw [<- e]; rfl)⟩
 ·have:=h.oA.1;unfold OwnS at this;rw [exs,rsl_len] at this;exact this
 ·by_cases hit:i=t
  ·exact hit
  ·exfalso
   have key:∀ i t,i < t->t < m->(rc i).1=(rc t).1->False:=λ i t hlt ht e => by
    have h1:=hrc i (by omega);have h2:=hrc t ht;have li:i < ow.length:=by omega
    have lt:t < ow.length:=by omega
    have hs:=List.pairwise_iff_getElem.1 h.s i t li lt hlt;rw [gE li] at h1;rw [gE lt] at h2;simp only [Option.some.injEq] at h1 h2;rw [h1,h2] at hs;exact hs (rc i).1 rfl (by rw [e]; rfl)
   rcases Nat.lt_or_gt_of_ne hit with hlt | hlt
   ·exact key i t hlt ht' e
   ·exact key t i hlt hi e.symm
section
variable {ops : Array Oper} {rest : List Oper} {o : Oper} {a : Act} {Q : Exit → Act → World → Prop}
end
theorem zsz (x:Rat):x=x - 0:=by grind
theorem num_zero {r:Rat}:r.num=0↔r=0:=Rat.num_eq_zero
structure TT (W:World) (B:Nat) (v:Value) (rows:List (List Qo)):Prop where
 ex:∃ xs,OwnR W B v xs/\RowsOf W xs rows/\∀ x∈xs,∀ b,x.ownBlock=some b->v.ownBlock ≠ some b/\b < W.heap.size
theorem TT.nil (W:World) (B:Nat):TT W B (.slice none 0 0) []:=⟨[],OwnR.nil _ _,⟨rfl,λ i row h => by simp at h⟩,λ x h => by simp at h⟩
theorem TT.mono {W W':World} {B:Nat} {v:Value} {rows:List (List Qo)} (h:TT W B v rows) (hb:Below W.heap.size W W'):TT W' B v rows:=by
 obtain ⟨xs,h1,h2,h3⟩:=h.ex;exact ⟨xs,h1.kept (.of_below hb) (G:=λ _ => False) λ _ _ h => h,h2.mono hb,λ x hx b e => ⟨(h3 x hx b e).1,Nat.lt_of_lt_of_le (h3 x hx b e).2 hb.size⟩⟩
theorem TT.read {W:World} {B:Nat} {v:Value} {rows:List (List Qo)} (h:TT W B v rows):∃ ao cap,v=.slice ao rows.length cap/\UM W ao rows:=by
 obtain ⟨xs,h1,h2,_⟩:=h.ex;exact OwnS.um h1.1 h2
theorem TT.lt {W:World} {B:Nat} {v:Value} {rows:List (List Qo)} (h:TT W B v rows):∀ b,v.ownBlock=some b->B<=b/\b < W.heap.size:=by
 obtain ⟨xs,h1,_⟩:=h.ex;exact h1.lt
section
variable {ops : Array Oper} {rest : List Oper} {o : Oper} {a : Act} {Q : Exit → Act → World → Prop}
end
def t1 (A:List (List Rat)) (b X:List Rat) (i:Nat):List (List Rat):=((List.range i).filter λ i => decide (Du.dotR (A.getD i []) X=b.getD i 0)).map λ i => A.getD i []
def t2 (X:List Rat) (k:Nat):List (List Rat):=((List.range k).filter λ k => decide (X.getD k 0=0)).map (unitR X.length)
theorem one_ok (p:Bool) (w:World):Calls Tryz.prog 54 #[.bool p] w λ e w' => e=.returned (.int .i64 (if p then 1 else 0))/\Below w.heap.size w w':=by
 cases p
 all_goals
  go_enter Tryz.func54,Tryz.ntmps54;go_wp2;go_ret;exact ⟨rfl,br⟩
end Go.Proofs.YtileholjbdhmjaaGreatDoor
