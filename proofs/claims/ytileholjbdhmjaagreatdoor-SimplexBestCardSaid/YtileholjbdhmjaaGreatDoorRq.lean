/-
  Elimination, plain: the rank of a matrix whose kernel is 0; all numbers are quotients of determinants.
-/
import Derived.Test.YtileholjbdhmjaaGreatDoorSxA
import Derived.Test.YtileholjbdhmjaaGreatDoorRm
set_option linter.unusedVariables false
set_option linter.unusedSimpArgs false
namespace Sx
open Du
structure Ech (R n r:Nat) (M cur:Nat->Nat->Rat) (P:Nat->Nat):Prop where
 rR:r<=R
 rn:r<=n
 comb:∀ i,r<=i->i < R->∃ c:Nat->Rat,∀ j,j < n->cur i j=M (P i) j - sm r (λ t => c t * M (P t) j)
 zero:∀ i,r<=i->i < R->∀ t,t < r->cur i t=0
 det:det r (λ t s => M (P t) s) ≠ 0
 ker:∀ z:Nat->Rat,(∀ i,i < R->sm n (λ j => M i j * z j)=0)↔∀ i,i < R->sm n (λ j => cur i j * z j)=0
 tri:∀ t,t < r->cur t t ≠ 0/\∀ s,s < t->cur t s=0
section
variable {R n r : Nat} {M cur cur' : Nat → Nat → Rat} {P : Nat → Nat}
theorem Ech.start:Ech R n 0 M M (λ i => i) :=
 ⟨Nat.zero_le _,Nat.zero_le _,λ i _ _ => ⟨λ _ => 0,λ j _ => by simp only [sm]; grind⟩,λ i _ _ t h => by omega,by simp only [Sx.det]; decide,λ z => Iff.rfl,λ t h => by omega⟩
theorem Ech.border (h:Ech R n r M cur P) {i j:Nat} (hi:r<=i) (hR:i < R) (hj:j < n) :
  Sx.det (r + 1) (λ t s => M (P (if t < r then t else i)) (if s < r then s else j))=cur i j * Sx.det r (λ t s => M (P t) s):=by
 obtain ⟨c,hc⟩:=h.comb i hi hR;have h1:∀ s,s < r->sm r (λ t => c t * M (P t) s)=M (P i) s:=λ s hs => by
  have:=hc s (by have:=h.rn; omega);rw [h.zero i hi hR s hs] at this
  grind
 have:=det_border r (λ t s => M (P (if t < r then t else i)) (if s < r then s else j)) c (λ s hs => by
  rw [if_neg (Nat.lt_irrefl r),if_pos hs,<- h1 s hs];exact sm_congr _ _ _ λ t ht => by rw [if_pos ht])
 rw [this]
 congr 1
 ·rw [if_neg (Nat.lt_irrefl r),if_neg (Nat.lt_irrefl r),hc j hj];rw [sm_congr r _ (λ t => c t * M (P t) j) λ t ht => by rw [if_pos ht]]
 ·exact det_congr _ _ _ λ t s ht hs => by rw [if_pos ht,if_pos hs]
theorem Ech.size (h:Ech R n r M cur P) {K:Nat} (hM:∀ i j,j < n->Wh (M i j) K):∃ D:Int,D ≠ 0/\D.natAbs<=dz K r/\∀ i,r<=i->i < R->∀ j,j < n->Wh (cur i j * (D:Rat)) (dz K (r + 1)):=by
 obtain ⟨D,hD,hz⟩:=wh_det K r (λ t s => M (P t) s) λ t s _ hs => hM _ _ (by have:=h.rn; omega)
 refine ⟨D,λ e => h.det (by rw [hD,e]; rfl),hz,λ i hi hR j hj => ?_⟩;rw [<- hD,<- h.border hi hR hj];refine wh_det K (r + 1) _ λ t s ht hs => hM _ _ ?_
 split
 ·have:=h.rn; omega
 ·exact hj
theorem Ech.step (h:Ech R n r M cur P) (hr:r < R) (hn:r < n) (h0:cur r r ≠ 0)
  (hlow:∀ i,r < i->i < R->∀ j,j < n->cur' i j=cur i j - cur i r / cur r r * cur r j) (hup:∀ i,i<=r->∀ j,j < n->cur' i j=cur i j):Ech R n (r + 1) M cur' P:=by
 have hrow:∀ i,i < R->i<=r->∀ z:Nat->Rat,sm n (λ j => cur' i j * z j)=sm n (λ j => cur i j * z j):=λ i _ hi z => sm_congr _ _ _ λ j hj => by rw [hup i hi j hj]
 have hrow2:∀ i,i < R->r < i->∀ z:Nat->Rat,sm n (λ j => cur' i j * z j)=sm n (λ j => cur i j * z j) - cur i r / cur r r * sm n (λ j => cur r j * z j):=λ i hR hi z => by
  have e:∀ n,n<=n->∀ f:Rat,∀ a b:Nat->Rat,sm n (λ j => (a j - f * b j) * z j)=sm n (λ j => a j * z j) - f * sm n (λ j => b j * z j):=by
   intro n _ f a b
   induction n with
   | zero => simp only [sm]; grind
   | succ n ih => simp only [sm]; rw [ih nl]; grind
  rw [sm_congr n _ (λ j => (cur i j - cur i r / cur r r * cur r j) * z j) λ j hj => by rw [hlow i hi hR j hj]];exact e n nl _ _ _
 refine ⟨hr,hn,λ i hi hR => ?_,λ i hi hR t ht => ?_,?_,λ z => ?_,λ t ht => ?_⟩
 ·obtain ⟨c,hc⟩:=h.comb i (by omega) hR;obtain ⟨d,hd⟩:=h.comb r nl hr;refine ⟨λ t => if t < r then c t - cur i r / cur r r * d t else cur i r / cur r r,λ j hj => ?_⟩;rw [hlow i (by omega) hR j hj,hc j hj,hd j hj];have e:∀ q,q<=r->sm q (λ t => (if t < r then c t - cur i r / cur r r * d t else cur i r / cur r r) * M (P t) j)=sm q (λ t => c t * M (P t) j) - cur i r / cur r r * sm q (λ t => d t * M (P t) j):=by
   intro q
   induction q with
   | zero => intro _; simp only [sm]; grind
   | succ q ih => intro hq; simp only [sm]; rw [ih (by omega),if_pos (by omega)]; grind
  rw [sm,e r nl]
  dsimp only
  rw [if_neg (Nat.lt_irrefl r)]
  grind
 ·rw [hlow i (by omega) hR t (by omega)]
  by_cases e:t=r
  ·subst e;rw [Rat.div_mul_cancel h0]; grind
  ·rw [h.zero i (by omega) hR t (by omega),h.zero r nl hr t (by omega)]; grind
 ·have:=h.border (Nat.le_refl r) hr hn;have e:Sx.det (r + 1) (λ t s => M (P (if t < r then t else r)) (if s < r then s else r))=Sx.det (r + 1) (λ t s => M (P t) s):=det_congr _ _ _ λ t s ht hs => by
   have h1:(if t < r then t else r)=t:=by split <;> omega
   have h2:(if s < r then s else r)=s:=by split <;> omega
   rw [h1,h2]
  rw [<- e,this];exact λ hh => by rcases Rat.mul_eq_zero.1 hh with h1 | h1; exact h0 h1; exact h.det h1
 ·rw [h.ker z]
  constructor
  ·intro hz i hi
   by_cases hir:i<=r
   ·rw [hrow i hi hir,hz i hi]
   ·rw [hrow2 i hi (by omega),hz i hi,hz r hr]; grind
  ·intro hz i hi
   by_cases hir:i<=r
   ·rw [<- hrow i hi hir]; exact hz i hi
   ·have h1:=hz i hi;rw [hrow2 i hi (by omega)] at h1;have h2:=hz r hr;rw [hrow r hr nl] at h2;rw [h2] at h1
    grind
 ·by_cases e:t=r
  ·subst e;exact ⟨by rw [hup t nl t hn]; exact h0,λ s hs => by rw [hup t nl s (by omega)]; exact h.zero t nl hr s hs⟩
  ·have h1:=h.tri t (by omega);exact ⟨by rw [hup t (by omega) t (by omega)]; exact h1.1,λ s hs => by rw [hup t (by omega) s (by omega)]; exact h1.2 s hs⟩
end
end Sx
namespace Go.Proofs.YtileholjbdhmjaaGreatDoor
open Go.RowKit
def unitR (n k:Nat):List Rat:=(List.range n).map λ j => if j=k then 1 else 0
section
variable {A : List (List Rat)} {b C X Y : List Rat} {m n K : Nat} {val : Rat}
theorem unit_dot {n k:Nat} (hk:k < n) (z:Nat->Rat):Du.sm n (λ j => (unitR n k).getD j 0 * z j)=z k:=by
 rw [Du.sm_congr n _ (λ j => (if j=k then (1:Rat) else 0) * z j) λ j hj => by unfold unitR; rw [rng_get _ hj]];exact Sx.sm_delta n k hk z
end
end Go.Proofs.YtileholjbdhmjaaGreatDoor
