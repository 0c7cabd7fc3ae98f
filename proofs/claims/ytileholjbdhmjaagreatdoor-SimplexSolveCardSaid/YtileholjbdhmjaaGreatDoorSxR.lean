/-
  Elimination, plain: the rank of a matrix whose kernel is 0; all numbers are quotients of determinants.
-/
import Derived.Test.YtileholjbdhmjaaGreatDoorXRs
import Derived.Test.YtileholjbdhmjaaGreatDoorSxA
set_option linter.unusedVariables false
set_option linter.unusedSimpArgs false
namespace Sx
open Du
structure Ech (R n r:Nat) (M cur:Nat→Nat→Rat) (P:Nat→Nat):Prop where
 rR:r≤R
 rn:r≤n
 comb:∀ i,r≤i→i < R→∃ c:Nat→Rat,∀ j,j < n→cur i j=M (P i) j - sm r (fun t => c t * M (P t) j)
 zero:∀ i,r≤i→i < R→∀ t,t < r→cur i t=0
 det:det r (fun t s => M (P t) s) ≠ 0
 ker:∀ z:Nat→Rat,(∀ i,i < R→sm n (fun j => M i j * z j)=0)↔∀ i,i < R→sm n (fun j => cur i j * z j)=0
 tri:∀ t,t < r→cur t t ≠ 0∧∀ s,s < t→cur t s=0
section
variable {R n r : Nat} {M cur cur' : Nat → Nat → Rat} {P : Nat → Nat}
theorem Ech.start:Ech R n 0 M M (fun i => i) :=
 ⟨Nat.zero_le _,Nat.zero_le _,fun i _ _ => ⟨fun _ => 0,fun j _ => by simp only [sm]; grind⟩,fun i _ _ t h => by omega,by simp only [Sx.det]; decide,fun z => Iff.rfl,fun t h => by omega⟩
theorem Ech.border (h:Ech R n r M cur P) {i j:Nat} (hi:r≤i) (hR:i < R) (hj:j < n) :
  Sx.det (r + 1) (fun t s => M (P (if t < r then t else i)) (if s < r then s else j))=cur i j * Sx.det r (fun t s => M (P t) s):=by
 obtain ⟨c,hc⟩:=h.comb i hi hR;have h1:∀ s,s < r→sm r (fun t => c t * M (P t) s)=M (P i) s:=fun s hs => by
  have:=hc s (by have:=h.rn; omega);rw [h.zero i hi hR s hs] at this
  grind
 have:=det_border r (fun t s => M (P (if t < r then t else i)) (if s < r then s else j)) c (fun s hs => by
  rw [if_neg (Nat.lt_irrefl r),if_pos hs,← h1 s hs];exact sm_congr _ _ _ fun t ht => by rw [if_pos ht])
 rw [this]
 congr 1
 ·rw [if_neg (Nat.lt_irrefl r),if_neg (Nat.lt_irrefl r),hc j hj];rw [sm_congr r _ (fun t => c t * M (P t) j) fun t ht => by rw [if_pos ht]]
 ·exact det_congr _ _ _ fun t s ht hs => by rw [if_pos ht,if_pos hs]
theorem Ech.size (h:Ech R n r M cur P) {K:Nat} (hM:∀ i j,j < n→Wh (M i j) K):∃ D:Int,D ≠ 0∧D.natAbs≤dz K r∧∀ i,r≤i→i < R→∀ j,j < n→Wh (cur i j * (D:Rat)) (dz K (r + 1)):=by
 obtain ⟨D,hD,hz⟩:=wh_det K r (fun t s => M (P t) s) fun t s _ hs => hM _ _ (by have:=h.rn; omega)
 refine ⟨D,fun e => h.det (by rw [hD,e]; rfl),hz,fun i hi hR j hj => ?_⟩;rw [← hD,← h.border hi hR hj];refine wh_det K (r + 1) _ fun t s ht hs => hM _ _ ?_
 split
 ·have:=h.rn; omega
 ·exact hj
theorem Ech.step (h:Ech R n r M cur P) (hr:r < R) (hn:r < n) (h0:cur r r ≠ 0)
  (hlow:∀ i,r < i→i < R→∀ j,j < n→cur' i j=cur i j - cur i r / cur r r * cur r j) (hup:∀ i,i≤r→∀ j,j < n→cur' i j=cur i j):Ech R n (r + 1) M cur' P:=by
 have hrow:∀ i,i < R→i≤r→∀ z:Nat→Rat,sm n (fun j => cur' i j * z j)=sm n (fun j => cur i j * z j):=fun i _ hi z => sm_congr _ _ _ fun j hj => by rw [hup i hi j hj]
 have hrow2:∀ i,i < R→r < i→∀ z:Nat→Rat,sm n (fun j => cur' i j * z j)=sm n (fun j => cur i j * z j) - cur i r / cur r r * sm n (fun j => cur r j * z j):=fun i hR hi z => by
  have e:∀ n,n≤n→∀ f:Rat,∀ a b:Nat→Rat,sm n (fun j => (a j - f * b j) * z j)=sm n (fun j => a j * z j) - f * sm n (fun j => b j * z j):=by
   intro n _ f a b
   induction n with
   | zero => simp only [sm]; grind
   | succ n ih => simp only [sm]; rw [ih nl]; grind
  rw [sm_congr n _ (fun j => (cur i j - cur i r / cur r r * cur r j) * z j) fun j hj => by rw [hlow i hi hR j hj]];exact e n nl _ _ _
 refine ⟨hr,hn,fun i hi hR => ?_,fun i hi hR t ht => ?_,?_,fun z => ?_,fun t ht => ?_⟩
 ·obtain ⟨c,hc⟩:=h.comb i (by omega) hR;obtain ⟨d,hd⟩:=h.comb r nl hr;refine ⟨fun t => if t < r then c t - cur i r / cur r r * d t else cur i r / cur r r,fun j hj => ?_⟩;rw [hlow i (by omega) hR j hj,hc j hj,hd j hj];have e:∀ q,q≤r→sm q (fun t => (if t < r then c t - cur i r / cur r r * d t else cur i r / cur r r) * M (P t) j)=sm q (fun t => c t * M (P t) j) - cur i r / cur r r * sm q (fun t => d t * M (P t) j):=by
   intro q
   induction q with
   | zero => intro _; simp only [sm]; grind
   | succ q ih => intro hq; simp only [sm]; rw [ih (by omega),if_pos (by omega)]; grind
  rw [sm,e r nl]
  dsimp only
  rw [if_neg (Nat.lt_irrefl r)]
  grind
 ·rw [hlow i (by omega) hR t (by omega)]
  by_cases e:t=r
  ·subst e;rw [Rat.div_mul_cancel h0]; grind
  ·rw [h.zero i (by omega) hR t (by omega),h.zero r nl hr t (by omega)]; grind
 ·have:=h.border (Nat.le_refl r) hr hn;have e:Sx.det (r + 1) (fun t s => M (P (if t < r then t else r)) (if s < r then s else r))=Sx.det (r + 1) (fun t s => M (P t) s):=det_congr _ _ _ fun t s ht hs => by
   have h1:(if t < r then t else r)=t:=by split <;> omega
   have h2:(if s < r then s else r)=s:=by split <;> omega
   rw [h1,h2]
  rw [← e,this];exact fun hh => by rcases Rat.mul_eq_zero.1 hh with h1 | h1; exact h0 h1; exact h.det h1
 ·rw [h.ker z]
  constructor
  ·intro hz i hi
   by_cases hir:i≤r
   ·rw [hrow i hi hir,hz i hi]
   ·rw [hrow2 i hi (by omega),hz i hi,hz r hr]; grind
  ·intro hz i hi
   by_cases hir:i≤r
   ·rw [← hrow i hi hir]; exact hz i hi
   ·have h1:=hz i hi;rw [hrow2 i hi (by omega)] at h1;have h2:=hz r hr;rw [hrow r hr nl] at h2;rw [h2] at h1
    grind
 ·by_cases e:t=r
  ·subst e;exact ⟨by rw [hup t nl t hn]; exact h0,fun s hs => by rw [hup t nl s (by omega)]; exact h.zero t nl hr s hs⟩
  ·have h1:=h.tri t (by omega);exact ⟨by rw [hup t (by omega) t (by omega)]; exact h1.1,fun s hs => by rw [hup t (by omega) s (by omega)]; exact h1.2 s hs⟩
theorem Ech.perm (h:Ech R n r M cur P) {τ:Nat→Nat} (h1:∀ t,t < r→τ t=t) (h2:∀ t,r≤t→t < R→r≤τ t∧τ t < R) (h3:∀ i,i < R→∃ t,t < R∧τ t=i) (hc:∀ i,i < R→∀ j,j < n→cur' i j=cur (τ i) j):Ech R n r M cur' (fun t => P (τ t)):=by
 have hrR:=h.rR;have hrn:=h.rn;have hP:∀ t,t < r→P (τ t)=P t:=fun t ht => by rw [h1 t ht]
 refine ⟨h.rR,h.rn,fun i hi hR => ?_,fun i hi hR t ht => ?_,?_,fun z => ?_,fun t ht => ?_⟩
 ·obtain ⟨c,hcc⟩:=h.comb (τ i) (h2 i hi hR).1 (h2 i hi hR).2;refine ⟨c,fun j hj => ?_⟩;rw [hc i hR j hj,hcc j hj]
  congr 1
  exact sm_congr _ _ _ fun t ht => by rw [hP t ht]
 ·rw [hc i hR t (by omega)];exact h.zero _ (h2 i hi hR).1 (h2 i hi hR).2 t ht
 ·rw [det_congr r _ (fun t s => M (P t) s) fun t s ht _ => by rw [hP t ht]];exact h.det
 ·rw [h.ker z]
  constructor
  ·intro hz i hi;rw [sm_congr n _ (fun j => cur (τ i) j * z j) fun j hj => by rw [hc i hi j hj]];refine hz _ ?_;rcases Nat.lt_or_ge i r with hir | hir
   ·rw [h1 i hir]; exact hi
   ·exact (h2 i hir hi).2
  ·intro hz i hi;obtain ⟨t,ht,rfl⟩:=h3 i hi;rw [← hz t ht];exact sm_congr _ _ _ fun j hj => by rw [hc t ht j hj]
 ·have h4:=h.tri t ht;have h5:∀ j,j < n→cur' t j=cur t j:=fun j hj => by rw [hc t (by omega) j hj,h1 t ht]
  exact ⟨by rw [h5 t (by omega)]; exact h4.1,fun s hs => by rw [h5 s (by omega)]; exact h4.2 s hs⟩
theorem Ech.pivot (h:Ech R n r M cur P) (hn:r < n) (hk:∀ z:Nat→Rat,(∀ i,i < R→sm n (fun j => M i j * z j)=0)→∀ j,j < n→z j=0):∃ i,r≤i∧i < R∧cur i r ≠ 0:=by
 apply Classical.byContradiction
 intro hno;have h0:∀ i,r≤i→i < R→cur i r=0:=fun i h1 h2 => Classical.byContradiction fun h3 => hno ⟨i,h1,h2,h3⟩
 have back:∀ q,q≤r→∃ z:Nat→Rat,z r=1∧(∀ s,r < s→z s=0)∧∀ t,r - q≤t→t < r→sm n (fun j => cur t j * z j)=0:=by
  intro q
  induction q with
  | zero => intro _; exact ⟨fun s => if s=r then 1 else 0,by simp,fun s hs => by show (if s=r then (1:Rat) else 0)=0; rw [if_neg (by omega)],fun t h1 h2 => by omega⟩
  | succ q ih =>
   intro hq;obtain ⟨z,z1,z2,z3⟩:=ih (by omega);obtain ⟨t0,ht0⟩:∃ t0,t0=r - q - 1:=⟨_,rfl⟩;have htr:=h.tri t0 (by omega);refine ⟨fun s => if s=t0 then z t0 - sm n (fun j => cur t0 j * z j) / cur t0 t0 else z s,by dsimp only; rw [if_neg (by omega)]; exact z1,fun s hs => by dsimp only; rw [if_neg (by omega)]; exact z2 s hs,fun t h1 h2 => ?_⟩;have hs:=sm_split n (fun j => cur t j * (if j=t0 then z t0 - sm n (fun j => cur t0 j * z j) / cur t0 t0 else z j)) (fun j => cur t j * z j) t0 (- (cur t t0 * (sm n (fun j => cur t0 j * z j) / cur t0 t0))) (by omega)
    (fun k _ hne => by rw [if_neg hne]) (by rw [if_pos rfl]; grind)
   rw [hs]
   by_cases e:t=t0
   ·subst e;have:cur t t * (sm n (fun j => cur t j * z j) / cur t t)=sm n (fun j => cur t j * z j):=by rw [Rat.mul_comm]; exact Rat.div_mul_cancel htr.1
    rw [this]; grind
   ·rw [(h.tri t h2).2 t0 (by omega),z3 t (by omega) h2]; grind
 obtain ⟨z,z1,z2,z3⟩:=back r nl;have hz:=hk z ((h.ker z).2 fun i hi => ?_) r hn
 ·rw [z1] at hz; exact absurd hz (by decide)
 ·rcases Nat.lt_or_ge i r with hir | hir
  ·exact z3 i (by omega) hir
  ·refine (sm_congr n _ (fun _ => 0) fun j hj => ?_).trans (sm_zero n);rcases Nat.lt_trichotomy j r with e | e | e
   ·rw [h.zero i hir hi j e]; grind
   ·rw [e,h0 i hir hi]; grind
   ·rw [z2 j e]; grind
end
end Sx
