/-
  The reference's best vertex, plain: the choices of conditions, and what the best of them is.
-/
import Derived.Test.YtileholjbdhmjaaGreatDoorZd
import Derived.Test.YtileholjbdhmjaaGreatDoorRq
import Derived.Test.YtileholjbdhmjaaGreatDoorVa
set_option linter.unusedVariables false
set_option linter.unusedSimpArgs false
namespace Sx
open Du
section
variable {d : Dat} {T : Nat → Nat → Rat} {B : Nat → Nat}
theorem corner_nb (h:d.Inv T B) (z:Nat->Rat) (h1:∀ i,i < d.m->(∀ t,t < d.m->B t ≠ d.n + i)->sm d.n (λ k => d.A i k * z k)=0) (h2:∀ k,k < d.n->(∀ t,t < d.m->B t ≠ k)->z k=0):∀ k,k < d.n->z k=0:=by
 let e:Nat->Rat:=λ v => if v < d.n then z v else - sm d.n (λ k => d.A (v - d.n) k * z k)
 have e0:∀ v,v < d.n->e v=z v:=λ v hv => if_pos hv
 have es:∀ i,e (d.n + i)=- sm d.n (λ k => d.A i k * z k):=λ i => by
  simp only [e]; rw [if_neg (by omega),show d.n + i - d.n=i by omega]
 have hz:∀ v,v < d.w->(∀ t,t < d.m->B t ≠ v)->e v=0:=λ v hv hp => by
  by_cases hn:v < d.n
  ·rw [e0 v hn]; exact h2 v hn hp
  ·obtain ⟨i,rfl⟩:∃ i,v=d.n + i:=⟨v - d.n,by omega⟩;rw [es,h1 i (by unfold Dat.w at hv; omega) hp]; grind
 have hrow:∀ i,i < d.m->sm d.w (λ v => e v * d.col v i)=0:=λ i hi => by
  rw [sum_cols _ hi,es,sm_congr d.n _ (λ k => d.A i k * z k) λ k hk => by rw [e0 k hk]]; grind
 have hb:∀ s,s < d.m->e (B s)=0:=by
  have hsum:∀ i,i < d.m->sm d.m (λ t => e (B t) * d.col (B t) i)=sm d.m (λ t => (λ _ => (0:Rat)) t * d.col (B t) i):=λ i hi => by
   have e1:=hrow i hi;have e2:sm d.w (λ v => e v * d.col v i)=sm d.w (λ v => sm d.m (λ t => if B t=v then e (B t) else 0) * d.col v i):=sm_congr _ _ _ λ v hv => by
    by_cases hin:∃ s,s < d.m/\B s=v
    ·obtain ⟨s,hs,rfl⟩:=hin;rw [sm_one d.m s _ hs λ k hk hne => if_neg λ ee => hne (h.inj hk hs ee),if_pos rfl]
    ·have hno:∀ t,t < d.m->B t ≠ v:=λ t ht ee => hin ⟨t,ht,ee⟩
     rw [hz v hv hno,sm_congr d.m _ (λ _ => 0) λ t ht => if_neg (hno t ht),sm_zero]
   rw [e2,sum_pnt h (λ t => e (B t)) (λ v => d.col v i)] at e1;rw [e1,sm_congr d.m _ (λ _ => 0) λ t _ => by grind];exact (sm_zero _).symm
  exact h.uniq (λ t => e (B t)) (λ _ => 0) hsum
 intro k hk;rw [<- e0 k hk]
 by_cases hin:∃ s,s < d.m/\B s=k
 ·obtain ⟨s,hs,rfl⟩:=hin;exact hb s hs
 ·exact hz k (by unfold Dat.w; omega) λ t ht ee => hin ⟨t,ht,ee⟩
theorem count_nb (h:d.Inv T B):sm d.w (λ v => if ∀ t,t < d.m->B t ≠ v then (1:Rat) else 0)=(d.n:Rat):=by
 have h1:sm d.w (λ v => sm d.m (λ t => if B t=v then (1:Rat) else 0))=(d.m:Rat):=by
  rw [sm_comm,sm_congr d.m _ (λ _ => 1) λ t ht => ?_]
  ·generalize d.m=m
   induction m with
   | zero => rfl
   | succ m ih => rw [sm,ih]; push_cast; rfl
  ·rw [sm_one d.w (B t) _ (h.bas t ht) λ k _ hne => if_neg λ e => hne e.symm,if_pos rfl]
 have h2:sm d.w (λ v => (if ∀ t,t < d.m->B t ≠ v then (1:Rat) else 0) + sm d.m (λ t => if B t=v then (1:Rat) else 0))=(d.w:Rat):=by
  rw [sm_congr d.w _ (λ _ => 1) λ v hv => ?_]
  ·generalize d.w=m
   induction m with
   | zero => rfl
   | succ m ih => rw [sm,ih]; push_cast; rfl
  ·by_cases hin:∃ s,s < d.m/\B s=v
   ·obtain ⟨s,hs,rfl⟩:=hin;rw [if_neg (λ hh => hh s hs rfl),sm_one d.m s _ hs λ k hk hne => if_neg λ ee => hne (h.inj hk hs ee),if_pos rfl]; grind
   ·have hno:∀ t,t < d.m->B t ≠ v:=λ t ht ee => hin ⟨t,ht,ee⟩
    rw [if_pos hno,sm_congr d.m _ (λ _ => 0) λ t ht => if_neg (hno t ht),sm_zero]; grind
 rw [sm_add,h1] at h2;unfold Dat.w at h2 |-;have h3:((d.n + d.m:Nat):Rat)=(d.n:Rat) + (d.m:Rat):=by push_cast; rfl
 rw [h3] at h2
 grind
end
end Sx
namespace Go.Proofs.YtileholjbdhmjaaGreatDoor
open Go.RowKit
def condL (A:List (List Rat)) (n:Nat):List (List Rat):=A ++ (List.range n).map (unitR n)
def condR (b:List Rat) (n:Nat):List Rat:=b ++ (List.range n).map λ _ => 0
def selI (w k:Nat):List Nat:=(List.range k).filter λ i => w.testBit i
def selA (A:List (List Rat)) (n w k:Nat):List (List Rat):=(selI w k).map λ i => (condL A n).getD i []
def selB (b:List Rat) (n w k:Nat):List Rat:=(selI w k).map λ i => (condR b n).getD i 0
def mkB (p:Nat->Bool):Nat->Nat
 | 0 => 0
 | k + 1 => (if p k then 2 ^ k else 0) + mkB p k
theorem mkB_lt (p:Nat->Bool):∀ k,mkB p k < 2 ^ k
 | 0 => Nat.one_pos
 | k + 1 => by
  have:=mkB_lt p k;rw [mkB,Nat.pow_succ]
  split <;> omega
theorem mkB_bit (p:Nat->Bool):∀ k i,i < k->(mkB p k).testBit i=p i
 | 0,i,h => by omega
 | k + 1,i,h => by
  rw [mkB]
  by_cases e:i=k
  ·subst e;have hlt:=mkB_lt p i
   cases hp:p i
   ·rw [if_neg (by decide),Nat.zero_add];exact Nat.testBit_lt_two_pow hlt
   ·rw [if_pos rfl,Nat.testBit_two_pow_add_eq,Nat.testBit_lt_two_pow hlt]; rfl
  ·have hi:i < k:=by omega
   have ih:=mkB_bit p k i hi
   split
   ·rw [Nat.testBit_two_pow_add_gt hi]; exact ih
   ·rw [Nat.zero_add]; exact ih
theorem selI_succ (w k:Nat):selI w (k + 1)=selI w k ++ (if w.testBit k then [k] else []):=by
 unfold selI;rw [List.range_succ,List.filter_append]
 congr 1
 cases h:w.testBit k <;> simp [h]
theorem selI_len (w k:Nat):(selI w k).length<=k:=Nat.le_trans (List.length_filter_le _ _) (by simp)
theorem selI_lt {w k i:Nat} (h:i∈selI w k):i < k:=List.mem_range.1 (List.mem_filter.1 h).1
section
variable {A : List (List Rat)} {b C X : List Rat} {m n K : Nat} {val best : Rat}
theorem selA_succ (w k:Nat):selA A n w (k + 1)=selA A n w k ++ (if w.testBit k then [(condL A n).getD k []] else []):=by
 unfold selA;rw [selI_succ,List.map_append]
 congr 1
 split <;> rfl
theorem selB_succ (w k:Nat):selB b n w (k + 1)=selB b n w k ++ (if w.testBit k then [(condR b n).getD k 0] else []):=by
 unfold selB;rw [selI_succ,List.map_append]
 congr 1
 split <;> rfl
theorem selA_len (w k:Nat):(selA A n w k).length=(selI w k).length:=by simp [selA]
theorem selB_len (w k:Nat):(selB b n w k).length=(selI w k).length:=by simp [selB]
theorem condL_lo (hA:A.length=m) {i:Nat} (hi:i < m):(condL A n).getD i []=A.getD i []:=by
 unfold condL;rw [List.getD_eq_getElem?_getD,List.getElem?_append_left (by omega),List.getD_eq_getElem?_getD]
theorem condL_hi (hA:A.length=m) {k:Nat} (hk:k < n):(condL A n).getD (m + k) []=unitR n k:=by
 unfold condL;rw [List.getD_eq_getElem?_getD,List.getElem?_append_right (by omega),hA,show m + k - m=k by omega,List.getElem?_map,List.getElem?_range hk]; rfl
theorem condR_lo (hb:b.length=m) {i:Nat} (hi:i < m):(condR b n).getD i 0=b.getD i 0:=by
 unfold condR;rw [List.getD_eq_getElem?_getD,List.getElem?_append_left (by omega),List.getD_eq_getElem?_getD]
theorem condR_hi (hb:b.length=m) {k:Nat} (hk:k < n):(condR b n).getD (m + k) 0=0:=by
 unfold condR;rw [List.getD_eq_getElem?_getD,List.getElem?_append_right (by omega),hb,show m + k - m=k by omega,List.getElem?_map,List.getElem?_range hk]; rfl
theorem condL_len (W:WP A b C m n K):(condL A n).length=m + n:=by simp [condL,W.lA]
theorem condR_len (W:WP A b C m n K):(condR b n).length=m + n:=by simp [condR,W.lb]
theorem condL_row (W:WP A b C m n K):∀ r∈condL A n,r.length=n:=by
 intro r hr;rcases List.mem_append.1 hr with hr | hr
 ·exact W.rA r hr
 ·obtain ⟨k,_,rfl⟩:=List.mem_map.1 hr;simp [unitR]
theorem condL_wh (W:WP A b C m n K):∀ r∈condL A n,∀ x∈r,Sx.Wh x K:=by
 intro r hr;rcases List.mem_append.1 hr with hr | hr
 ·exact W.wA r hr
 ·obtain ⟨k,_,rfl⟩:=List.mem_map.1 hr;refine mem_rng λ j _ => ?_
  split
  ·exact wh_one.mono W.hK.1
  ·exact Sx.wh_zero.mono (Nat.zero_le _)
theorem condR_wh (W:WP A b C m n K):∀ x∈condR b n,Sx.Wh x K:=by
 intro x hx;rcases List.mem_append.1 hx with hx | hx
 ·exact W.wb x hx
 ·obtain ⟨k,_,rfl⟩:=List.mem_map.1 hx;exact Sx.wh_zero.mono (Nat.zero_le _)
theorem condL_mem (W:WP A b C m n K) {i:Nat} (hi:i < m + n):(condL A n).getD i []∈condL A n:=by
 have hi':i < (condL A n).length:=by rw [condL_len W]; exact hi
 rw [List.getD_eq_getElem?_getD,gE hi'];exact List.getElem_mem hi'
theorem condR_mem (W:WP A b C m n K) {i:Nat} (hi:i < m + n):(condR b n).getD i 0∈condR b n:=by
 have hi':i < (condR b n).length:=by rw [condR_len W]; exact hi
 rw [List.getD_eq_getElem?_getD,gE hi'];exact List.getElem_mem hi'
theorem selA_row (W:WP A b C m n K) (w:Nat):∀ r∈selA A n w (m + n),r.length=n:=by
 intro r hr;obtain ⟨i,hi,rfl⟩:=List.mem_map.1 hr;exact condL_row W _ (condL_mem W (selI_lt hi))
theorem selA_wh (W:WP A b C m n K) (w:Nat):∀ r∈selA A n w (m + n),∀ x∈r,Sx.Wh x K:=by
 intro r hr;obtain ⟨i,hi,rfl⟩:=List.mem_map.1 hr;exact condL_wh W _ (condL_mem W (selI_lt hi))
theorem selB_wh (W:WP A b C m n K) (w:Nat):∀ x∈selB b n w (m + n),Sx.Wh x K:=by
 intro r hr;obtain ⟨i,hi,rfl⟩:=List.mem_map.1 hr;exact condR_wh W _ (condR_mem W (selI_lt hi))
theorem selA_get {w s i:Nat} (h:(selI w (m + n))[s]?=some i):(selA A n w (m + n)).getD s []=(condL A n).getD i []:=by
 unfold selA;rw [List.getD_eq_getElem?_getD (l:=List.map _ _),List.getElem?_map,h]; rfl
theorem selB_get {w s i:Nat} (h:(selI w (m + n))[s]?=some i):(selB b n w (m + n)).getD s 0=(condR b n).getD i 0:=by
 unfold selB;rw [List.getD_eq_getElem?_getD (l:=List.map _ _),List.getElem?_map,h]; rfl
structure Det (A:List (List Rat)) (b:List Rat) (m n w:Nat) (X:List Rat):Prop where
 len:(selI w (m + n)).length=n
 lX:X.length=n
 ker:∀ z:Nat->Rat,(∀ i,i < n->Du.sm n (λ j => ((selA A n w (m + n)).getD i []).getD j 0 * z j)=0)->∀ j,j < n->z j=0
 sol:∀ i,i < n->Du.sm n (λ j => ((selA A n w (m + n)).getD i []).getD j 0 * X.getD j 0)=(selB b n w (m + n)).getD i 0
theorem list_eq {X Y:List Rat} (h1:X.length=n) (h2:Y.length=n) (h:∀ j,j < n->X.getD j 0=Y.getD j 0):X=Y:=by
 refine List.ext_getElem (h1.trans h2.symm) λ j ha hb => ?_
 have:=h j (by omega);rw [List.getD_eq_getElem?_getD,gE ha,List.getD_eq_getElem?_getD,gE hb] at this;exact this
theorem aug_lo (M:List (List Rat)) (B:List Rat) {i j:Nat} (hj:j < n):augL M B n i j=(M.getD i []).getD j 0:=if_pos hj
theorem Det.no {w:Nat} (h:Det A b m n w X) {k:Nat} (hk:k < n) (y:Nat->Rat) (h0:y n=0) (h1:y k=1) (hy:∀ i,i < n->Du.sm (n + 1) (λ j => augL (selA A n w (m + n)) (selB b n w (m + n)) n i j * y j)=0):False:=by
 have:=h.ker y (λ i hi => by
  have h2:=hy i hi;rw [Du.sm,h0,Rat.mul_zero,Rat.add_zero] at h2;exact (Du.sm_congr _ _ _ λ j hj => by rw [aug_lo _ _ hj]).trans h2) k hk
 rw [h1] at this;exact absurd this (by decide)
theorem Det.one {w:Nat} (h:Det A b m n w X) {Z:List Rat} (hl:Z.length=n) (hy:∀ i,i < n->Du.sm n (λ j => augL (selA A n w (m + n)) (selB b n w (m + n)) n i j * Z.getD j 0)=augL (selA A n w (m + n)) (selB b n w (m + n)) n i n):Z=X:=by
 refine list_eq hl h.lX λ j hj => ?_
 have:=h.ker (λ j => Z.getD j 0 - X.getD j 0) (λ i hi => by
  have h1:=h.sol i hi;have h2:=hy i hi;have e:augL (selA A n w (m + n)) (selB b n w (m + n)) n i n=(selB b n w (m + n)).getD i 0:=if_neg (by omega);rw [e,<- h1] at h2;rw [Du.sm_congr n _ (λ j => augL (selA A n w (m + n)) (selB b n w (m + n)) n i j * Z.getD j 0 - ((selA A n w (m + n)).getD i []).getD j 0 * X.getD j 0) λ j hj => by rw [aug_lo _ _ hj]; grind,Du.sm_sub,h2]
  grind) j hj
 grind
structure BestI (A:List (List Rat)) (b C:List Rat) (m n t:Nat) (best val:Rat):Prop where
 le:best<=val
 all:∀ w,w < t->∀ X,Det A b m n w X->fitsB A b X=true->Du.dotR C X<=best
theorem zero_le_val (W:WP A b C m n K) {Y:List Rat} (o:OptX A b C m n val X Y):0<=val:=by
 have hz:∀ a:List Rat,a.length=n->Du.dotR a ((List.range n).map λ _ => 0)=0:=λ a ha => by
  rw [dot_rng ha,Du.sm_congr n _ (λ _ => 0) λ k _ => Rat.mul_zero _,Du.sm_zero]
 have hf:fitsB A b ((List.range n).map λ _ => 0)=true:=by
  refine fits_ok (mem_rng λ k _ => neg_of Rat.le_refl) (λ k a bi ha hb => ?_) (by rw [W.lA,W.lb]; exact nl);rw [hz a (W.rA a (List.mem_of_getElem? ha))];exact W.pb bi (List.mem_of_getElem? hb)
 have:=bound_le W (by simp) hf o;rw [hz C W.lC] at this;exact this
theorem BestI.start (W:WP A b C m n K) {Y:List Rat} (o:OptX A b C m n val X Y):BestI A b C m n 0 0 val:=⟨zero_le_val W o,λ w h => by omega⟩
theorem BestI.skip {t:Nat} (h:BestI A b C m n t best val) (h1:∀ X,Det A b m n t X->fitsB A b X=true->Du.dotR C X<=best):BestI A b C m n (t + 1) best val :=
 ⟨h.le,λ w hw X hd hf => by
  by_cases e:w=t
  ·subst e; exact h1 X hd hf
  ·exact h.all w (by omega) X hd hf⟩
theorem BestI.len {t:Nat} (h:BestI A b C m n t best val) (h1:(selI t (m + n)).length ≠ n):BestI A b C m n (t + 1) best val:=h.skip λ X hd _ => absurd hd.len h1
theorem BestI.none {t k:Nat} (h:BestI A b C m n t best val) (hk:k < n) (h1:∃ y:Nat->Rat,y n=0/\y k=1/\∀ i,i < n->Du.sm (n + 1) (λ j => augL (selA A n t (m + n)) (selB b n t (m + n)) n i j * y j)=0):BestI A b C m n (t + 1) best val :=
 h.skip λ X hd _ => by
  obtain ⟨y,h2,h3,h4⟩:=h1;exact (hd.no hk y h2 h3 h4).elim
def SolC (A:List (List Rat)) (b:List Rat) (m n t:Nat) (Z:List Rat):Prop:=Z.length=n/\∀ i,i < n->Du.sm n (λ j => augL (selA A n t (m + n)) (selB b n t (m + n)) n i j * Z.getD j 0)=augL (selA A n t (m + n)) (selB b n t (m + n)) n i n
theorem BestI.out {t:Nat} (h:BestI A b C m n t best val) {Z:List Rat} (hZ:SolC A b m n t Z) (h1:fitsB A b Z=false):BestI A b C m n (t + 1) best val :=
 h.skip λ X hd hf => by rw [<- hd.one hZ.1 hZ.2,h1] at hf; cases hf
theorem BestI.low {t:Nat} (h:BestI A b C m n t best val) {Z:List Rat} (hZ:SolC A b m n t Z) (h1:Du.dotR C Z<=best):BestI A b C m n (t + 1) best val :=
 h.skip λ X hd _ => by rw [<- hd.one hZ.1 hZ.2]; exact h1
theorem BestI.up (W:WP A b C m n K) {Y X0:List Rat} (o:OptX A b C m n val X0 Y) {t:Nat} (h:BestI A b C m n t best val) {Z:List Rat} (hZ:SolC A b m n t Z) (h1:fitsB A b Z=true) (h2:best < Du.dotR C Z):BestI A b C m n (t + 1) (Du.dotR C Z) val :=
 ⟨bound_le W hZ.1 h1 o,λ w hw X hd hf => by
  by_cases e:w=t
  ·subst e; rw [<- hd.one hZ.1 hZ.2]; exact Rat.le_refl
  ·exact Rat.le_trans (h.all w (by omega) X hd hf) (Rat.le_of_lt h2)⟩
theorem filter_sm (p:Nat->Bool):∀ k,(((List.range k).filter p).length:Rat)=Du.sm k (λ i => if p i then (1:Rat) else 0)
 | 0 => rfl
 | k + 1 => by
  rw [List.range_succ,List.filter_append,List.length_append,Du.sm,<- filter_sm p k]
  cases hp:p k
  ·simp [hp,Rat.add_zero]
  ·simp [hp]
theorem opt_det (W:WP A b C m n K) {Y:List Rat} (o:OptX A b C m n val X Y):∃ w,w < 2 ^ (m + n)/\Det A b m n w X:=by
 obtain ⟨L,bs,hF,hl,-,rfl,-⟩:=o
 let p:Nat->Bool:=λ i => if i < m then decide (∀ t,t < m->bs t ≠ n + i) else decide (∀ t,t < m->bs t ≠ i - m)
 have hp1:∀ i,i < m->(p i=true↔∀ t,t < m->bs t ≠ n + i):=λ i hi => by
  simp only [p]; rw [if_pos hi]; exact decide_eq_true_iff
 have hp2:∀ k,(p (m + k)=true↔∀ t,t < m->bs t ≠ k):=λ k => by
  simp only [p]; rw [if_neg (by omega),show m + k - m=k by omega]; exact decide_eq_true_iff
 have hbit:∀ i,i < m + n->(mkB p (m + n)).testBit i=p i:=λ i hi => mkB_bit p (m + n) i hi
 have hsel:selI (mkB p (m + n)) (m + n)=(List.range (m + n)).filter p:=by
  unfold selI;exact List.filter_congr λ i hi => hbit i (List.mem_range.1 hi)
 have hmem:∀ i,i < m + n->p i=true->∃ s,s < (selI (mkB p (m + n)) (m + n)).length/\(selI (mkB p (m + n)) (m + n))[s]?=some i:=λ i hi hpi => by
  obtain ⟨s,hs⟩:=List.getElem?_of_mem (show i∈selI (mkB p (m + n)) (m + n) by rw [hsel]; exact List.mem_filter.2 ⟨List.mem_range.2 hi,hpi⟩);exact ⟨s,lt_of_get hs,hs⟩
 have hcount:(selI (mkB p (m + n)) (m + n)).length=n:=by
  have h1:=Sx.count_nb hF.inv;have h2:Du.sm (n + m) (λ v => if ∀ t,t < m->bs t ≠ v then (1:Rat) else 0)=(n:Rat):=h1;rw [Sx.sm_append] at h2;have h3:=filter_sm p (m + n);rw [Sx.sm_append] at h3;rw [Du.sm_congr m _ (λ i => if ∀ t,t < m->bs t ≠ n + i then (1:Rat) else 0) λ i hi => by
   by_cases e:∀ t,t < m->bs t ≠ n + i
   ·rw [if_pos e,if_pos ((hp1 i hi).2 e)]
   ·rw [if_neg e,if_neg (λ h => e ((hp1 i hi).1 h))],Du.sm_congr n _ (λ k => if ∀ t,t < m->bs t ≠ k then (1:Rat) else 0) λ k hk => by
   by_cases e:∀ t,t < m->bs t ≠ k
   ·rw [if_pos e,if_pos ((hp2 k).2 e)]
   ·rw [if_neg e,if_neg (λ h => e ((hp2 k).1 h))],Rat.add_comm,h2] at h3
  rw [hsel]
  exact_mod_cast h3
 refine ⟨_,mkB_lt p (m + n),hcount,by simp,λ z hz => ?_,λ s hs => ?_⟩
 ·refine Sx.corner_nb hF.inv z (λ i hi hn => ?_) λ k hk hn => ?_
  ·have hi:i < m:=hi;obtain ⟨s,hs,hg⟩:=hmem i (by omega) ((hp1 i hi).2 hn);have:=hz s (by rw [<- hcount]; exact hs);rw [selA_get hg,condL_lo W.lA hi] at this;exact this
  ·have hk:k < n:=hk;obtain ⟨s,hs,hg⟩:=hmem (m + k) (by omega) ((hp2 k).2 hn);have:=hz s (by rw [<- hcount]; exact hs);rw [selA_get hg,condL_hi W.lA hk,unit_dot hk] at this;exact this
 ·obtain ⟨i,hg⟩:∃ i,(selI (mkB p (m + n)) (m + n))[s]?=some i:=⟨_,gE (by rw [hcount]; exact hs)⟩;have hi:=List.mem_filter.1 (by rw [<- hsel]; exact List.mem_of_getElem? hg);have hin:=List.mem_range.1 hi.1;rw [selA_get hg,selB_get hg]
  by_cases him:i < m
  ·have hno:=(hp1 i him).1 hi.2;rw [condL_lo W.lA him,condR_lo W.lb him,Du.sm_congr n _ (λ j => (datL A b C m n).A i j * Sx.pnt (datL A b C m n) L bs j) λ j hj => by rw [rng_get _ hj]; rfl];have h1:=Sx.pnt_row hF.inv (i:=i) him;have h2:Sx.pnt (datL A b C m n) L bs ((datL A b C m n).n + i)=0:=Sx.pnt_out hno;rw [h2,Rat.add_zero] at h1;exact h1
  ·obtain ⟨k,rfl⟩:∃ k,i=m + k:=⟨i - m,by omega⟩;have hk:k < n:=by omega
   have hno:=(hp2 k).1 hi.2;rw [condL_hi W.lA hk,condR_hi W.lb hk,unit_dot hk,rng_get _ hk];exact Sx.pnt_out hno
theorem BestI.done (W:WP A b C m n K) {Y:List Rat} (o:OptX A b C m n val X Y) (h:BestI A b C m n (2 ^ (m + n)) best val):best=val:=by
 obtain ⟨w,hw,hd⟩:=opt_det W o;obtain ⟨hL,_⟩:=o.list W;have h1:=h.all w hw X hd hL.fit;obtain ⟨s,h2,_,h3⟩:=hL.v1;rw [<- dot_of h2,h3] at h1;exact Rat.le_antisymm h.le h1
theorem wh_kb5 {x:Rat} {D:Int} {N:Nat} (hD:D ≠ 0) (hDz:D.natAbs<=KK ^ 5) (h:Sx.Wh (x * (D:Rat)) N) (hN:N<=KK ^ 5):Kb 5 x:=by
 have:=wh_bd hD h hDz;exact ⟨Nat.le_trans this.1 hN,this.2⟩
theorem dot_cd5 {D:Int} {K M N:Nat} (hD:D ≠ 0) (hDz:D.natAbs<=KK ^ 5) (hK:K<=KK) (hM:M<=KK ^ 5) (hN:N * (K * M)<=KK ^ 5):∀ (la lb:List Rat) (acc:Rat) (j:Nat),(∀ r∈la,Sx.Wh r K)->CD D M lb->Sx.Wh (acc * (D:Rat)) (j * (K * M))->j + la.length<=N->∃ s,DotS acc la lb (some s)/\Sx.Wh (s * (D:Rat)) (N * (K * M))
 | [],_,acc,j,_,_,hb,hj => ⟨acc,rfl,hb.mono (Nat.mul_le_mul_right _ (by simpa using hj))⟩
 | _ :: _,[],acc,j,_,_,hb,hj => ⟨acc,rfl,hb.mono (Nat.mul_le_mul_right _ (by omega))⟩
 | a :: la,x :: lb,acc,j,h1,h2,hb,hj => by
  rw [List.length_cons] at hj;have ha:=h1 a (by simp);have hx:=h2 x (by simp);have hax:Sx.Wh (a * x * (D:Rat)) (K * M):=by rw [Rat.mul_assoc]; exact ha.mul hx
  have hKM:K * M<=N * (K * M):=Nat.le_mul_of_pos_left _ (by omega);have hjm:j * (K * M)<=N * (K * M):=Nat.mul_le_mul_right _ (by omega);have hs:Sx.Wh ((acc + a * x) * (D:Rat)) ((j + 1) * (K * M)):=by
   rw [Rat.add_mul,Nat.add_mul,Nat.one_mul]; exact hb.add hax
  obtain ⟨s,hs1,hs2⟩:=dot_cd5 hD hDz hK hM hN la lb (acc + a * x) (j + 1) (λ r hr => h1 r (by simp [hr])) (λ r hr => h2 r (by simp [hr])) hs (by omega);refine ⟨s,.inl ⟨(wh_whole ha hK).mulS (wh_kb5 hD hDz hx hM) (by decide),?_,hs1⟩,hs2⟩;exact (wh_kb5 hD hDz hb (by omega)).addS (wh_kb5 hD hDz hax (by omega)) (by decide)
theorem common:∀ l:List Rat,(∀ x∈l,XB x)->∃ D:Int,D ≠ 0/\D.natAbs<=gjW 4 ^ l.length/\CD D (gjW 4 ^ l.length) l
 | [],_ => ⟨1,by decide,by decide,λ r h => by simp at h⟩
 | x :: l,h => by
  obtain ⟨D,h1,h2,h3⟩:=common l λ y hy => h y (by simp [hy])
  obtain ⟨E,g1,g2,g3⟩:=h x (by simp);refine ⟨E * D,Int.mul_ne_zero g1 h1,?_,λ r hr => ?_⟩
  ·rw [Int.natAbs_mul,List.length_cons,Nat.pow_succ,Nat.mul_comm]; exact Nat.mul_le_mul h2 g2
  ·rw [List.length_cons,Nat.pow_succ,Rat.intCast_mul];rcases List.mem_cons.1 hr with rfl | hr
   ·have e:r * ((E:Rat) * (D:Rat))=(r * (E:Rat)) * (D:Rat):=by grind
    rw [e,Nat.mul_comm];exact g3.mul ⟨D,rfl,h2⟩
   ·have e:r * ((E:Rat) * (D:Rat))=(r * (D:Rat)) * (E:Rat):=by grind
    rw [e];exact (h3 r hr).mul ⟨E,rfl,g2⟩
theorem gjW4:4 * (20 * gjW 4 ^ 4)<=KK ^ 5:=by unfold KK; exact of_decide_eq_true (by kernel_rfl)
theorem gjW_pos:1<=gjW 4:=of_decide_eq_true (by kernel_rfl)
theorem dot_xb {la lb:List Rat} (h1:∀ r∈la,Sx.Wh r 20) (h2:∀ x∈lb,XB x) (hl:la.length<=4) (hlb:lb.length<=4):∃ s,DotS 0 la lb (some s)/\Kb 5 s:=by
 obtain ⟨D,d1,d2,d3⟩:=common lb h2;have hp:gjW 4 ^ lb.length<=gjW 4 ^ 4:=Nat.pow_le_pow_right gjW_pos hlb;have hq:=gjW4;have hD:D.natAbs<=KK ^ 5:=by omega
 obtain ⟨s,hs,hw⟩:=dot_cd5 (K:=20) (M:=gjW 4 ^ 4) (N:=4) d1 hD (by unfold KK; decide) (by omega) hq la lb 0 0 h1 (λ r hr => (d3 r hr).mono hp) (by rw [Rat.zero_mul]; exact Sx.wh_zero.mono (Nat.zero_le _)) (by omega);exact ⟨s,hs,wh_kb5 d1 hD hw hq⟩
end
structure TQ (W:World) (B:Nat) (vA vB:Value) (rows:List (List Qo)) (lb:List Qo):Prop where
 ex:∃ xs,OwnR W B vA xs/\RowsOf W xs rows/\SepR W xs vA/\SepR W xs vB
 b:OwnO W B vB lb
 ab:Sep vA vB
theorem TQ.nil (W:World) (B:Nat):TQ W B (.slice none 0 0) (.slice none 0 0) [] [] :=
 ⟨⟨[],OwnR.nil _ _,⟨rfl,λ i row h => by simp at h⟩,SepR.nil _ _,SepR.nil _ _⟩,OwnO.nil _ _,sep_nil _⟩
section
variable {W W' : World} {B : Nat} {vA vB : Value} {rows : List (List Qo)} {lb : List Qo}
theorem TQ.mono (h:TQ W B vA vB rows lb) (hb:Below W.heap.size W W'):TQ W' B vA vB rows lb:=by
 obtain ⟨⟨xs,h1,h2,h3,h4⟩,hB,ab⟩:=h;have hk:Kept (λ _ => False) W W':=.of_below hb;exact ⟨⟨xs,h1.kept hk (λ _ _ h => h),h2.mono hb,h3.mono hb.size,h4.mono hb.size⟩,hB.mono hb,ab⟩
theorem TQ.read (h:TQ W B vA vB rows lb):∃ aA cA aB cB,vA=.slice aA rows.length cA/\vB=.slice aB lb.length cB/\UM W aA rows/\UQ W aB lb:=by
 obtain ⟨⟨xs,h1,h2,_⟩,hB,_⟩:=h;obtain ⟨aA,cA,rfl,uA⟩:=h1.1.um h2;obtain ⟨aB,cB,rfl,uB⟩:=hB.read;exact ⟨aA,cA,aB,cB,rfl,rfl,uA,uB⟩
theorem TQ.lts (h:TQ W B vA vB rows lb):(∀ b,vA.ownBlock=some b->B<=b/\b < W.heap.size)/\∀ b,vB.ownBlock=some b->B<=b/\b < W.heap.size:=by
 obtain ⟨⟨xs,h1,_⟩,hB,_⟩:=h;exact ⟨h1.lt,hB.lt⟩
end
section
variable {ops : Array Oper} {rest : List Oper} {o : Oper} {a : Act} {Q : Exit → Act → World → Prop}
theorem app_tqA (W X:World) (B:Nat) (hgd:o.guard=none) (s x:Operand) (ho:o.op=.call { callee:=.builtin .append,args:=#[s,x],argTypes:=#[27,27] })
  {v vB:Value} {rows:List (List Qo)} {lb:List Qo} {ar:Option Addr} {nn cr:Nat} {l:List Qo} (hs:a.eval s=v) (hxx:a.eval x=.slice (some ⟨W.heap.size,0,none⟩) 1 1) (hT:TQ W B v vB rows lb) (hnl:nn=l.length) (hu:UQ W ar l) (hsp:∀ b,(Value.slice ar nn cr).ownBlock=some b->v.ownBlock ≠ some b/\vB.ownBlock ≠ some b/\b < W.heap.size) (hB:B<=W.heap.size) (hb:Below B X W) (hl:rows.length<=1000000)
  (hK:∀ v' w',TQ w' B v' vB (rows ++ [l]) lb->Below B X w'->wpList Tryz.prog ops Q rest (a.put o.dst v') w') :
  wpList Tryz.prog ops Q (o :: rest) a (W.alloc (.cells #[.slice ar nn cr] 28)):=by
 subst hnl;have hba:=bA W (.cells #[.slice ar l.length cr] 28);have hc:(W.alloc (.cells #[.slice ar l.length cr] 28)).cell? ⟨W.heap.size,0,none⟩=some (.slice ar l.length cr):=by simp [go_sem]
 have hsz:=hba.size;obtain ⟨⟨xs,h1,h2,h3,h4⟩,h5,ab⟩:=hT.mono hba;have hu2:=hu.mono hba;have lB:=λ b e => (h5.lt b e).2
 obtain ⟨v',w',hr,k1,k2,gr⟩:=run_app_r _ X o.type B v xs ar l.length cr W.heap.size 1 h1 (Nat.le_trans hB hsz) (hb.alloc hB _) hc (by rw [h2.1]; exact hl);have hlt:∀ b,(Value.slice ar l.length cr).ownBlock=some b->b < (W.alloc (.cells #[.slice ar l.length cr] 28)).heap.size:=λ b e => Nat.lt_of_lt_of_le (hsp b e).2.2 hsz
 have hs':∀ b,(Value.slice ar l.length cr).ownBlock=some b->b < w'.heap.size:=λ b e => Nat.lt_of_lt_of_le (hlt b e) gr.grown.size
 have hsv:Sep (.slice ar l.length cr) v':=Sep.grw (λ b e => (hsp b e).1) hlt gr;refine wpList_plain hgd λ K hK' => ?_
 exact oper_append s x ho hs hxx hr (hK' _ _ (hK v' w' ⟨⟨xs ++ [.slice ar l.length cr],k1,(h2.kept gr.kept gr.noG λ x hx b e => (h3 x hx).2 b e).snoc (hu2.kept gr.kept gr.noG λ a e e2 => (hsp a.block (by rw [e]; rfl)).1 e2),(h3.grw gr).snoc hs' hsv,(h4.mono gr.grown.size).snoc hs' (λ b e => (hsp b e).2.1)⟩,h5.kept gr.kept gr.noG (λ b e => ab.symm b e),(ab.symm.grw lB gr).symm⟩ k2))
theorem app_tqB (w W:World) {n1:Bool} {a1:Option Addr} {l1 c1:Nat} {n2:Bool} {a2:Option Addr} {l2 c2:Nat} {q:Rat} (hgd:o.guard=none) (s x:Operand) (ho:o.op=.call { callee:=.builtin .append,args:=#[s,x],argTypes:=#[28,28] })
  (B:Nat) (v:Value) {vA:Value} {rows:List (List Qo)} (l:List Qo) (hs:a.eval s=v) (hT:TQ w B vA v rows l) (hB:B<=w.heap.size) (hb:Below B W w) (hr:RatV w (.agg #[.bool n1,.slice a1 l1 c1,.bool n2,.slice a2 l2 c2]) q)
  (hx:a.eval x=.slice (some ⟨w.heap.size,0,none⟩) 1 1) (hl:l.length<=100000)
  (hK:∀ v' w',TQ w' B vA v' rows (l ++ [some q])->Below B W w'->wpList Tryz.prog ops Q rest (a.put o.dst v') w') :
  wpList Tryz.prog ops Q (o :: rest) a (w.alloc (.cells #[.bool n1,.slice a1 l1 c1,.bool n2,.slice a2 l2 c2] 38)):=by
 have hba:=bA w (.cells #[.bool n1,.slice a1 l1 c1,.bool n2,.slice a2 l2 c2] 38);have hsz:=hba.size;obtain ⟨⟨xs,h1,h2,h3,h4⟩,h5,ab⟩:=hT.mono hba;have lA:=λ b e => (h1.lt b e).2
 obtain ⟨v',w',hr',k1,k2,gr⟩:=run_app_o _ W o.type B v l (some q) _ 1 h5 (by omega) (hb.alloc hB _) (uq_one hr) hl;refine wpList_plain hgd λ K hK' => ?_
 unfold Oper.wp;simp [execOp,ho,resolve,invoke,builtin,hs,hx,hr',Result.andThen];exact hK' _ _ (hK v' w' ⟨⟨xs,h1.kept gr.kept (λ b e => ab b e),h2.kept gr.kept gr.noG (λ x hx b e => (h4 x hx).2 b e),h3.mono gr.grown.size,h4.grw gr⟩,k1,ab.grw lA gr⟩ k2)
end
end Go.Proofs.YtileholjbdhmjaaGreatDoor
