/-
  Values of two programs of which each leads into the other: exchanged rows and columns, scaled sides.
-/
import Derived.Test.YtileholjbdhmjaaGreatDoorRg
set_option linter.unusedVariables false
set_option linter.unusedSimpArgs false
namespace Go.Proofs.YtileholjbdhmjaaGreatDoor
open Go.RowKit
def IsOpt (d:Sx.Dat) (v:Rat):Prop:=(∃ x,Du.Sol d.m d.n d.A d.b x/\Du.sm d.n (λ k => d.C k * x k)=v)/\∃ y,Du.Pri d.m d.n d.A d.C y/\Du.sm d.m (λ i => d.b i * y i)=v
structure RayD (d:Sx.Dat) (x:Nat->Rat):Prop where
 pos:∀ k,k < d.n->0<=x k
 row:∀ i,i < d.m->Du.sm d.n (λ k => d.A i k * x k)<=0
 val:0 < Du.sm d.n (λ k => d.C k * x k)
section
variable {d e : Sx.Dat} {f g u v : Rat} {φ ψ : (Nat → Rat) → Nat → Rat}
def sw (a b k:Nat):Nat:=if k=a then b else if k=b then a else k
theorem sw_sw (a b k:Nat):sw a b (sw a b k)=k:=by unfold sw; grind
theorem sw_lt {a b k n:Nat} (ha:a < n) (hb:b < n) (hk:k < n):sw a b k < n:=by unfold sw; grind
end
section
variable {A : List (List Rat)} {b C : List Rat} {m n : Nat}
theorem OptX.is {val:Rat} {X Y:List Rat} (h:OptX A b C m n val X Y):IsOpt (datL A b C m n) val:=by
 obtain ⟨L,bs,hF,hl,rfl,-,-⟩:=h;exact ⟨⟨_,Sx.inv_sol hF.inv hF.pos,Sx.pnt_val hF.inv⟩,_,Sx.inv_pri hF.inv hl,Sx.pri_val hF.inv⟩
end
section
variable {α : Type} {l : List α} {z : α} {i k n : Nat}
end
section
variable {A : List (List Rat)} {b C : List Rat} {m n K i k : Nat}
end
section
variable {A : List (List Rat)} {b C : List Rat} {m n K t : Nat}
theorem WP.up (W:WP A b C m n K) {K':Nat} (h1:K<=K') (h2:K'<=KK) (hbig:8 * (K' * szE K' m)<=KK):WP A b C m n K' :=
 ⟨W.lA,W.rA,W.lb,W.lC,λ r hr x hx => (W.wA r hr x hx).mono h1,λ x hx => (W.wb x hx).mono h1,λ x hx => (W.wC x hx).mono h1,⟨Nat.le_trans W.hK.1 h1,h2⟩,W.hm,W.hn,W.pb,hbig⟩
end
section
variable {A : List (List Rat)} {b C : List Rat} {m n K t : Nat}
end
theorem big20 {m:Nat} (h:m<=8):8 * (20 * szE 20 m)<=KK:=by
 unfold KK;exact (of_decide_eq_true (by kernel_rfl):∀ m,m < 9->8 * (20 * szE 20 m)<=10 ^ 25) m (by omega)
theorem k180:180<=KK:=by unfold KK; exact of_decide_eq_true (by kernel_rfl)
section
variable {A : List (List Rat)} {b C : List Rat} {m n t : Nat}
theorem qz_len (l:List Int):(qz l).length=l.length:=by simp [qz]
theorem wp_int {Z:List (List Int)} {y c:List Int} (h1:Z.length=y.length) (h2:∀ r∈Z,r.length=c.length) (h3:∀ r∈Z,∀ z∈r,z.natAbs<=20) (h4:∀ z∈y,0<=z/\z<=20) (h5:∀ z∈c,z.natAbs<=20) (hm:1<=y.length/\y.length<=8) (hn:1<=c.length/\c.length<=8) :
  WP (Z.map qz) (qz y) (qz c) y.length c.length 20:=by
 refine ⟨by rw [List.length_map,h1],λ r hr => ?_,qz_len y,qz_len c,λ r hr x hx => ?_,qz_wh λ z hz => by have:=h4 z hz; omega,qz_wh h5,⟨by omega,Nat.le_trans (by decide) k180⟩,hm,hn,qz_pos λ z hz => (h4 z hz).1,big20 hm.2⟩
 ·obtain ⟨l,hl,rfl⟩:=List.mem_map.1 hr;rw [qz_len,h2 l hl]
 ·obtain ⟨l,hl,rfl⟩:=List.mem_map.1 hr;exact qz_wh (h3 l hl) x hx
end
section
variable {A : List (List Rat)} {b C : List Rat} {m n K : Nat}
end
section
variable {A : List (List Rat)} {b C x : List Rat} {m n K : Nat}
theorem fits_sol (W:WP A b C m n K) (hx:x.length=n) (h:fitsB A b x=true):Du.Sol m n (datL A b C m n).A (datL A b C m n).b (λ k => x.getD k 0):=by
 unfold fitsB at h;rw [Bool.and_eq_true,List.all_eq_true,List.all_eq_true] at h;refine ⟨λ k hk => ?_,λ i hi => ?_⟩
 ·have hk':k < x.length:=by omega
  have:=h.1 x[k] (List.getElem_mem hk');rw [List.getD_eq_getElem?_getD,gE hk']
  show 0<=x[k]
  unfold negR at this;simp only [Bool.not_eq_true',decide_eq_false_iff_not] at this;exact Rat.num_nonneg.1 (by omega)
 ·have hi':i < A.length:=by rw [W.lA]; exact hi
  have:=of_decide_eq_true (h.2 i (List.mem_range.2 hi'));have ha:A.getD i []=A[i]:=by rw [List.getD_eq_getElem?_getD,gE hi']; rfl
  have hl:(A.getD i []).length=n:=by rw [ha]; exact W.rA _ (List.getElem_mem hi')
  rw [Du.dot_sm _ _ (by rw [hl,hx]),hl] at this;exact this
theorem bound_le (W:WP A b C m n K) (hx:x.length=n) (h:fitsB A b x=true) {val:Rat} {X Y:List Rat} (o:OptX A b C m n val X Y):Du.dotR C x<=val:=by
 obtain ⟨_,y,hy,hu⟩:=o.is;have:=Du.weak (fits_sol W hx h) hy;have e:Du.sm n (λ k => (datL A b C m n).C k * x.getD k 0)=Du.dotR C x:=by
  rw [Du.dot_sm _ _ (by rw [W.lC,hx]),W.lC]; rfl
 rw [e] at this;have hu:Du.sm m (λ i => (datL A b C m n).b i * y i)=val:=hu;rw [hu] at this
 grind
end
end Go.Proofs.YtileholjbdhmjaaGreatDoor
namespace Sx
open Du
structure GJ (R k:Nat) (M cur:Nat->Nat->Rat) (W:Nat):Prop where
 ker:∀ y:Nat->Rat,(∀ i,i < R->sm (R + 1) (λ j => M i j * y j)=0)↔∀ i,i < R->sm (R + 1) (λ j => cur i j * y j)=0
 diag:∀ c,c < k->cur c c ≠ 0/\∀ i,i < R->i ≠ c->cur i c=0
 size:∀ i,i < R->∃ D:Int,D ≠ 0/\D.natAbs<=W/\∀ j,j < R + 1->Wh (cur i j * (D:Rat)) W
section
variable {R k : Nat} {M cur cur' : Nat → Nat → Rat} {W : Nat}
theorem GJ.start (hM:∀ i j,i < R->j < R + 1->Wh (M i j) W) (hW:1<=W):GJ R 0 M M W :=
 ⟨λ y => Iff.rfl,λ c h => by omega,λ i hi => ⟨1,by decide,by simpa using hW,λ j hj => by
  have:=hM i j hi hj;have e:M i j * ((1:Int):Rat)=M i j:=by grind
  rw [e]; exact this⟩⟩
theorem GJ.congr (h:GJ R k M cur W) (hc:∀ i,i < R->∀ j,j < R + 1->cur' i j=cur i j) (hk:k<=R):GJ R k M cur' W:=by
 refine ⟨λ y => ?_,λ c hcc => ⟨by rw [hc c (by omega) c (by omega)]; exact (h.diag c hcc).1,λ i hi hn => by rw [hc i hi c (by omega)]; exact (h.diag c hcc).2 i hi hn⟩,λ i hi => ?_⟩
 ·rw [h.ker y]
  constructor
  ·intro hz i hi;rw [sm_congr _ _ (λ j => cur i j * y j) λ j hj => by rw [hc i hi j hj]]; exact hz i hi
  ·intro hz i hi;rw [<- sm_congr _ (λ j => cur' i j * y j) _ λ j hj => by rw [hc i hi j hj]]; exact hz i hi
 ·obtain ⟨D,h1,h2,h3⟩:=h.size i hi;exact ⟨D,h1,h2,λ j hj => by rw [hc i hi j hj]; exact h3 j hj⟩
theorem GJ.swap {τ:Nat->Nat} (h:GJ R k M cur W) (h1:∀ t,t < k->τ t=t) (h2:∀ t,t < R->τ t < R) (h3:∀ t,τ (τ t)=t) (hk:k<=R):GJ R k M (λ t => cur (τ t)) W:=by
 refine ⟨λ y => ?_,λ c hc => ⟨by rw [h1 c hc]; exact (h.diag c hc).1,λ i hi hn => (h.diag c hc).2 _ (h2 i hi) λ e => hn ?_⟩,λ i hi => h.size _ (h2 i hi)⟩
 ·rw [h.ker y]
  constructor
  ·intro hz i hi; exact hz _ (h2 i hi)
  ·intro hz i hi;have:=hz _ (h2 i hi);rw [h3] at this; exact this
 ·have:=congrArg τ e;rw [h3,h1 c hc] at this; exact this
theorem Wh.mul_sub {a b c d:Rat} (ha:Wh a W) (hb:Wh b W) (hc:Wh c W) (hd:Wh d W):Wh (a * b - c * d) (2 * W * W):=by
 obtain ⟨a,rfl,h1⟩:=ha;obtain ⟨b,rfl,h2⟩:=hb;obtain ⟨c,rfl,h3⟩:=hc;obtain ⟨d,rfl,h4⟩:=hd;refine ⟨a * b - c * d,by push_cast; rfl,?_⟩;have e1:(a * b).natAbs<=W * W:=by rw [Int.natAbs_mul]; exact Nat.mul_le_mul h1 h2
 have e2:(c * d).natAbs<=W * W:=by rw [Int.natAbs_mul]; exact Nat.mul_le_mul h3 h4
 have e3:2 * W * W=W * W + W * W:=by rw [Nat.mul_assoc]; omega
 omega
theorem GJ.step (h:GJ R k M cur W) (hk:k < R) (h0:cur k k ≠ 0) (hrow:∀ j,j < R + 1->cur' k j=cur k j)
  (hlow:∀ i,i < R->i ≠ k->∀ j,j < R + 1->cur' i j=cur i j - cur i k / cur k k * cur k j):GJ R (k + 1) M cur' (2 * W * W):=by
 have hr0:∀ y:Nat->Rat,sm (R + 1) (λ j => cur' k j * y j)=sm (R + 1) (λ j => cur k j * y j):=λ y => sm_congr _ _ _ λ j hj => by rw [hrow j hj]
 have hr1:∀ i,i < R->i ≠ k->∀ y:Nat->Rat,sm (R + 1) (λ j => cur' i j * y j)=sm (R + 1) (λ j => cur i j * y j) - cur i k / cur k k * sm (R + 1) (λ j => cur k j * y j):=λ i hi hn y => by
  rw [<- sm_mul,<- sm_sub];exact sm_congr _ _ _ λ j hj => by rw [hlow i hi hn j hj]; grind
 refine ⟨λ y => ?_,λ c hc => ?_,λ i hi => ?_⟩
 ·rw [h.ker y]
  constructor
  ·intro hz i hi
   by_cases e:i=k
   ·subst e; rw [hr0,hz i hi]
   ·rw [hr1 i hi e,hz i hi,hz k hk]; grind
  ·intro hz i hi;have hzk:=hz k hk;rw [hr0] at hzk
   by_cases e:i=k
   ·subst e; exact hzk
   ·have:=hz i hi;rw [hr1 i hi e,hzk] at this
    grind
 ·by_cases e:c=k
  ·subst e;refine ⟨by rw [hrow c (by omega)]; exact h0,λ i hi hn => ?_⟩;rw [hlow i hi hn c (by omega),Rat.div_mul_cancel h0]; grind
  ·have hcd:=h.diag c (by omega);have hkc:cur k c=0:=hcd.2 k hk (λ h => e h.symm);refine ⟨?_,λ i hi hn => ?_⟩
   ·rw [hlow c (by omega) e c (by omega),hkc];have:=hcd.1
    grind
   ·by_cases e2:i=k
    ·subst e2; rw [hrow c (by omega)]; exact hkc
    ·rw [hlow i hi e2 c (by omega),hkc,hcd.2 i hi hn]; grind
 ·obtain ⟨Dk,k1,k2,k3⟩:=h.size k hk;have hWW:W<=2 * W * W:=by
   rcases Nat.eq_zero_or_pos W with e | e
   ·rw [e]; omega
   ·have:=Nat.mul_le_mul_left W (show 1<=W by omega);have e3:2 * W * W=W * W + W * W:=by rw [Nat.mul_assoc]; omega
    omega
  by_cases e:i=k
  ·subst e;refine ⟨Dk,k1,by omega,λ j hj => ?_⟩;rw [hrow j hj];obtain ⟨z,e1,e2⟩:=k3 j hj;exact ⟨z,e1,by omega⟩
  ·obtain ⟨Di,d1,d2,d3⟩:=h.size i hi;obtain ⟨zk,e1,e2⟩:=k3 k (by omega);have hzk:zk ≠ 0:=λ e3 => by
    rw [e3] at e1;have h1:cur k k * (Dk:Rat)=0:=by rw [e1]; rfl
    rcases Rat.mul_eq_zero.1 h1 with h2 | h2
    ·exact h0 h2
    ·exact k1 (by exact_mod_cast h2)
   refine ⟨Di * zk,Int.mul_ne_zero d1 hzk,?_,λ j hj => ?_⟩
   ·rw [Int.natAbs_mul];have:=Nat.mul_le_mul d2 e2;have e3:2 * W * W=W * W + W * W:=by rw [Nat.mul_assoc]; omega
    omega
   ·have key:cur' i j * ((Di * zk:Int):Rat)=cur i j * (Di:Rat) * (zk:Rat) - cur i k * (Di:Rat) * (cur k j * (Dk:Rat)):=by
     rw [hlow i hi e j hj,Rat.intCast_mul,<- e1];have hd:cur i k / cur k k * cur k k=cur i k:=Rat.div_mul_cancel h0
     calc (cur i j - cur i k / cur k k * cur k j) * ((Di:Rat) * (cur k k * (Dk:Rat)))=cur i j * (Di:Rat) * (cur k k * (Dk:Rat)) - (cur i k / cur k k * cur k k) * (Di:Rat) * (cur k j * (Dk:Rat)):=by grind
      _=_:=by rw [hd]
    rw [key];exact Wh.mul_sub (d3 j hj) ⟨zk,rfl,e2⟩ (d3 k (by omega)) (k3 j hj)
theorem GJ.none (h:GJ R k M cur W) (hk:k < R) (h0:∀ i,k<=i->i < R->cur i k=0):∃ y:Nat->Rat,y R=0/\y k=1/\∀ i,i < R->sm (R + 1) (λ j => M i j * y j)=0:=by
 refine ⟨λ j => if j=k then 1 else if j < k then - (cur j k / cur j j) else 0,?_,by simp,?_⟩
 ·dsimp only; rw [if_neg (by omega),if_neg (by omega)]
 ·rw [h.ker];intro i hi
  by_cases hik:i < k
  ·have hd:=(h.diag i hik).1;rw [sm_split (R + 1) _ (λ j => if j=k then cur i k else 0) i (cur i i * (- (cur i k / cur i i))) (by omega) (λ j hj hn => ?_) ?_,sm_one (R + 1) k _ (by omega) (λ j hj hn => by rw [if_neg hn])]
   ·rw [if_pos rfl];have:cur i i * (cur i k / cur i i)=cur i k:=by rw [Rat.mul_comm]; exact Rat.div_mul_cancel hd
    grind
   ·try dsimp only
    rw [if_neg (by omega),if_pos hik,if_neg (by omega)]; grind
   ·try dsimp only
    by_cases e:j=k
    ·subst e; rw [if_pos rfl,if_pos rfl]; grind
    ·rw [if_neg e,if_neg e]
     by_cases e2:j < k
     ·rw [if_pos e2,(h.diag j e2).2 i hi (λ e3 => hn e3.symm)]; grind
     ·rw [if_neg e2]; grind
  ·rw [sm_congr _ _ (λ _ => 0) λ j hj => ?_,sm_zero]
   try dsimp only
   by_cases e:j=k
   ·subst e; rw [h0 i (by omega) hi]; grind
   ·rw [if_neg e]
    by_cases e2:j < k
    ·rw [if_pos e2,(h.diag j e2).2 i hi (by omega)]; grind
    ·rw [if_neg e2]; grind
theorem GJ.done (h:GJ R R M cur W) {x:Nat->Rat} (hx:∀ i,i < R->x i=cur i R / cur i i):∀ i,i < R->sm R (λ j => M i j * x j)=M i R:=by
 have hk:=(h.ker (λ j => if j=R then -1 else x j)).2 λ i hi => by
  have hd:=(h.diag i hi).1;have e1:sm R (λ j => cur i j * (if j=R then (-1:Rat) else x j))=cur i i * x i:=by
   rw [sm_one R i _ hi (λ j hj hn => by rw [(h.diag j hj).2 i hi (λ e => hn e.symm)]; grind)];rw [if_neg (by omega)]
  rw [sm,e1,if_pos rfl,hx i hi];have:cur i i * (cur i R / cur i i)=cur i R:=by rw [Rat.mul_comm]; exact Rat.div_mul_cancel hd
  grind
 intro i hi;have:=hk i hi;rw [sm,if_pos rfl,sm_congr R _ (λ j => M i j * x j) λ j hj => by rw [if_neg (by omega)]] at this
 grind
end
end Sx
