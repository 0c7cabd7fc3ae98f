/-
  The conditions that are tight at an optimum determine it.
-/
import Derived.Test.YtileholjbdhmjaaGreatDoorRm
import Derived.Test.YtileholjbdhmjaaGreatDoorSxR
set_option linter.unusedVariables false
set_option linter.unusedSimpArgs false
namespace Go.Proofs.YtileholjbdhmjaaGreatDoor
open Go.RowKit
def unitR (n k:Nat):List Rat:=(List.range n).map fun j => if j=k then 1 else 0
def tightL (A:List (List Rat)) (b X:List Rat):List (List Rat) :=
 ((List.range A.length).filter fun i => decide (Du.dotR (A.getD i []) X=b.getD i 0)).map (fun i => A.getD i []) ++ ((List.range X.length).filter fun k => decide (X.getD k 0=0)).map (unitR X.length)
section
variable {A : List (List Rat)} {b C X Y : List Rat} {m n K : Nat} {val : Rat}
theorem unit_dot {n k:Nat} (hk:k < n) (z:Nat→Rat):Du.sm n (fun j => (unitR n k).getD j 0 * z j)=z k:=by
 rw [Du.sm_congr n _ (fun j => (if j=k then (1:Rat) else 0) * z j) fun j hj => by unfold unitR; rw [rng_get _ hj]];exact Sx.sm_delta n k hk z
theorem tight_ker (W:WP A b C m n K) (o:OptX A b C m n val X Y) (z:Nat→Rat) (hz:∀ r∈tightL A b X,Du.sm n (fun j => r.getD j 0 * z j)=0):∀ j,j < n→z j=0:=by
 obtain ⟨L,bs,hF,hl,-,rfl,-⟩:=o;have hX:((List.range n).map (Sx.pnt (datL A b C m n) L bs)).length=n:=by simp
 refine Sx.corner hF.inv z (fun i hi h0 => ?_) fun k hk h0 => ?_
 ·have hi:i < m:=hi;have hr:=Sx.pnt_row hF.inv (i:=i) hi;rw [h0] at hr;have hA:(A.getD i []).length=n:=by
   have hi':i < A.length:=by rw [W.lA]; exact hi
   rw [List.getD_eq_getElem?_getD,gE hi'];exact W.rA _ (List.getElem_mem hi')
  refine hz (A.getD i []) (List.mem_append.2 (.inl (List.mem_map.2 ⟨i,List.mem_filter.2 ⟨List.mem_range.2 (by rw [W.lA]; exact hi),decide_eq_true ?_⟩,rfl⟩)));rw [dot_rng hA];have e:Du.sm (datL A b C m n).n (fun k => (datL A b C m n).A i k * Sx.pnt (datL A b C m n) L bs k) + 0=(datL A b C m n).b i:=hr;have e2:Du.sm n (fun k => (A.getD i []).getD k 0 * Sx.pnt (datL A b C m n) L bs k) + 0=b.getD i 0:=e;rw [← e2]; grind
 ·have hk:k < n:=hk;have:=hz (unitR n k) (List.mem_append.2 (.inr (List.mem_map.2 ⟨k,List.mem_filter.2 ⟨List.mem_range.2 (by rw [hX]; exact hk),decide_eq_true (by rw [rng_get _ hk]; exact h0)⟩,by rw [hX]⟩)));rw [unit_dot hk] at this;exact this
theorem tight_len (W:WP A b C m n K) (hX:X.length=n):∀ r∈tightL A b X,r.length=n:=by
 intro r hr;rcases List.mem_append.1 hr with hr | hr
 ·obtain ⟨i,hi,rfl⟩:=List.mem_map.1 hr;have hi':i < A.length:=List.mem_range.1 (List.mem_filter.1 hi).1;rw [List.getD_eq_getElem?_getD,gE hi'];exact W.rA _ (List.getElem_mem hi')
 ·obtain ⟨k,hk,rfl⟩:=List.mem_map.1 hr;simp [unitR,hX]
theorem tight_wh (W:WP A b C m n K):∀ r∈tightL A b X,∀ x∈r,Sx.Wh x K:=by
 intro r hr;rcases List.mem_append.1 hr with hr | hr
 ·obtain ⟨i,hi,rfl⟩:=List.mem_map.1 hr;have hi':i < A.length:=List.mem_range.1 (List.mem_filter.1 hi).1;rw [List.getD_eq_getElem?_getD,gE hi'];exact W.wA _ (List.getElem_mem hi')
 ·obtain ⟨k,hk,rfl⟩:=List.mem_map.1 hr;refine mem_rng fun j _ => ?_
  split
  ·exact wh_one.mono W.hK.1
  ·exact Sx.wh_zero.mono (Nat.zero_le _)
theorem tight_mat (W:WP A b C m n K) (o:OptX A b C m n val X Y) (z:Nat→Rat) (hz:∀ i,i < (tightL A b X).length→Du.sm n (fun j => ((tightL A b X).getD i []).getD j 0 * z j)=0):∀ j,j < n→z j=0:=by
 refine tight_ker W o z fun r hr => ?_
 obtain ⟨i,hi⟩:=List.getElem?_of_mem hr;have:=hz i (lt_of_get hi);rw [getDL_of hi] at this;exact this
end
end Go.Proofs.YtileholjbdhmjaaGreatDoor
