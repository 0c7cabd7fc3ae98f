/-
  Values of two programs of which each leads into the other: exchanged rows and columns, scaled sides.
-/
import Derived.Test.YtileholjbdhmjaaGreatDoorRg
set_option linter.unusedVariables false
set_option linter.unusedSimpArgs false
namespace Go.Proofs.YtileholjbdhmjaaGreatDoor
open Go.RowKit
def IsOpt (d:Sx.Dat) (v:Rat):Prop:=(∃ x,Du.Sol d.m d.n d.A d.b x∧Du.sm d.n (fun k => d.C k * x k)=v)∧∃ y,Du.Pri d.m d.n d.A d.C y∧Du.sm d.m (fun i => d.b i * y i)=v
structure RayD (d:Sx.Dat) (x:Nat→Rat):Prop where
 pos:∀ k,k < d.n→0≤x k
 row:∀ i,i < d.m→Du.sm d.n (fun k => d.A i k * x k)≤0
 val:0 < Du.sm d.n (fun k => d.C k * x k)
section
variable {d e : Sx.Dat} {f g u v : Rat} {φ ψ : (Nat → Rat) → Nat → Rat}
theorem IsOpt.ray (h:IsOpt d v) {x:Nat→Rat} (r:RayD d x):False:=by
 obtain ⟨_,y,hy,_⟩:=h;exact Du.ray_none r.pos r.row r.val hy
end
section
variable {A : List (List Rat)} {b C : List Rat} {m n : Nat}
theorem OptX.is {val:Rat} {X Y:List Rat} (h:OptX A b C m n val X Y):IsOpt (datL A b C m n) val:=by
 obtain ⟨L,bs,hF,hl,rfl,-,-⟩:=h;exact ⟨⟨_,Sx.inv_sol hF.inv hF.pos,Sx.pnt_val hF.inv⟩,_,Sx.inv_pri hF.inv hl,Sx.pri_val hF.inv⟩
theorem UnbX.is {Z:List Rat} (g:UnbX A b C m n Z):∃ x,RayD (datL A b C m n) x:=by
 obtain ⟨M,cs,k,gF,hk,hn,hc,_⟩:=g;refine ⟨Sx.rayv (datL A b C m n) M cs k,fun k' _ => Sx.ray_nonneg hc k',fun i hi => ?_,?_⟩
 ·have h1:=Sx.ray_row gF.inv hk hi;have h2:=Sx.ray_nonneg (d:=datL A b C m n) (B:=cs) (k:=k) (T:=M) hc ((datL A b C m n).n + i)
  grind
 ·rw [Sx.ray_val gF.inv hk];have hn:M (datL A b C m n).m k < 0:=hn
  grind
end
theorem opt_nil {d:Sx.Dat} {v:Rat} (h:IsOpt d v) (hb:∀ i,i < d.m→0≤d.b i) (hC:∀ k,k < d.n→d.C k≤0):v=0:=by
 have hC0:∀ (n:Nat) (x:Nat→Rat),n≤d.n→(∀ k,k < n→0≤x k)→Du.sm n (fun k => d.C k * x k)≤0:=by
  intro n
  induction n with
  | zero => intro x _ _; exact Rat.le_refl
  | succ n ih =>
   intro x hn hx;have h1:=ih x (by omega) fun k hk => hx k (by omega)
   have h2:=Rat.mul_le_mul_of_nonneg_right (hC n (by omega)) (hx n (by omega));rw [Rat.zero_mul] at h2;simp only [Du.sm]
   grind
 obtain ⟨⟨x,hx,hv⟩,y,hy,hu⟩:=h;refine Rat.le_antisymm (by rw [← hv]; exact hC0 d.n x nl hx.pos) ?_;have h0:∀ (n:Nat) (a:Nat→Rat),Du.sm n (fun k => a k * (0:Rat))=0:=fun n a => (Du.sm_congr n _ (fun _ => 0) fun k _ => by grind).trans (Du.sm_zero n)
 have:=Du.weak (x:=fun _ => 0) ⟨fun k _ => Rat.le_refl,fun i hi => by rw [h0]; exact hb i hi⟩ hy;rw [hu,h0] at this
 grind
theorem ray_nil {d:Sx.Dat} {x:Nat→Rat} (r:RayD d x) (hC:∀ k,k < d.n→d.C k≤0):False:=by
 have hC0:∀ n,n≤d.n→Du.sm n (fun k => d.C k * x k)≤0:=by
  intro n
  induction n with
  | zero => intro _; exact Rat.le_refl
  | succ n ih =>
   intro hn;have h1:=ih (by omega);have h2:=Rat.mul_le_mul_of_nonneg_right (hC n (by omega)) (r.pos n (by omega));rw [Rat.zero_mul] at h2;simp only [Du.sm]
   grind
 exact Rat.not_lt.2 (hC0 d.n nl) r.val
section
variable {α : Type} {l : List α} {z : α} {i k n : Nat}
end
section
variable {A : List (List Rat)} {b C : List Rat} {m n K i k : Nat}
end
section
variable {A : List (List Rat)} {b C : List Rat} {m n K t : Nat}
theorem WP.up (W:WP A b C m n K) {K':Nat} (h1:K≤K') (h2:K'≤KK) (hbig:8 * (K' * szE K' m)≤KK):WP A b C m n K' :=
 ⟨W.lA,W.rA,W.lb,W.lC,fun r hr x hx => (W.wA r hr x hx).mono h1,fun x hx => (W.wb x hx).mono h1,fun x hx => (W.wC x hx).mono h1,⟨Nat.le_trans W.hK.1 h1,h2⟩,W.hm,W.hn,W.pb,hbig⟩
end
section
variable {A : List (List Rat)} {b C : List Rat} {m n K t : Nat}
end
theorem big20 {m:Nat} (h:m≤8):8 * (20 * szE 20 m)≤KK:=by
 unfold KK;exact (of_decide_eq_true (by kernel_rfl):∀ m,m < 9→8 * (20 * szE 20 m)≤10 ^ 25) m (by omega)
theorem k180:180≤KK:=by unfold KK; exact of_decide_eq_true (by kernel_rfl)
section
variable {A : List (List Rat)} {b C : List Rat} {m n t : Nat}
theorem qz_len (l:List Int):(qz l).length=l.length:=by simp [qz]
theorem wp_int {Z:List (List Int)} {y c:List Int} (h1:Z.length=y.length) (h2:∀ r∈Z,r.length=c.length) (h3:∀ r∈Z,∀ z∈r,z.natAbs≤20) (h4:∀ z∈y,0≤z∧z≤20) (h5:∀ z∈c,z.natAbs≤20) (hm:1≤y.length∧y.length≤8) (hn:1≤c.length∧c.length≤8) :
  WP (Z.map qz) (qz y) (qz c) y.length c.length 20:=by
 refine ⟨by rw [List.length_map,h1],fun r hr => ?_,qz_len y,qz_len c,fun r hr x hx => ?_,qz_wh fun z hz => by have:=h4 z hz; omega,qz_wh h5,⟨by omega,Nat.le_trans (by decide) k180⟩,hm,hn,qz_pos fun z hz => (h4 z hz).1,big20 hm.2⟩
 ·obtain ⟨l,hl,rfl⟩:=List.mem_map.1 hr;rw [qz_len,h2 l hl]
 ·obtain ⟨l,hl,rfl⟩:=List.mem_map.1 hr;exact qz_wh (h3 l hl) x hx
end
def negL (l:List Rat):List Rat:=l.map fun x => - x
def dualA (A:List (List Rat)) (m n:Nat):List (List Rat):=(List.range n).map fun k => (List.range m).map fun i => - (A.getD i []).getD k 0
theorem negL_wh {l:List Rat} {K:Nat} (h:∀ x∈l,Sx.Wh x K):∀ x∈negL l,Sx.Wh x K:=by
 intro x hx;obtain ⟨y,hy,rfl⟩:=List.mem_map.1 hx;exact (h y hy).neg
section
variable {A : List (List Rat)} {b C : List Rat} {m n K : Nat}
theorem getA_wh (W:WP A b C m n K) (i k:Nat):Sx.Wh ((A.getD i []).getD k 0) K:=by
 rw [List.getD_eq_getElem?_getD (l:=A)]
 cases ha:A[i]? with
 | none => exact getD_wh (l:=[]) (fun x h => by simp at h) k
 | some r => exact getD_wh (W.wA r (List.mem_of_getElem? ha)) k
theorem WP.dual (W:WP A b C m n K) (hC:∀ x∈C,x≤0) (big:8 * (K * szE K n)≤KK):WP (dualA A m n) (negL C) (negL b) n m K:=by
 refine ⟨by simp [dualA],fun r hr => ?_,by simp [negL,W.lC],by simp [negL,W.lb],fun r hr => ?_,negL_wh W.wC,negL_wh W.wb,W.hK,W.hn,W.hm,fun x hx => ?_,big⟩
 ·obtain ⟨k,_,rfl⟩:=List.mem_map.1 hr;simp
 ·obtain ⟨k,_,rfl⟩:=List.mem_map.1 hr;exact mem_rng fun i _ => (getA_wh W i k).neg
 ·obtain ⟨y,hy,rfl⟩:=List.mem_map.1 hx;have:=hC y hy
  grind
theorem getD_neg {l:List Rat} (h:∀ x∈l,x≤0) (i:Nat):l.getD i 0≤0:=by
 rw [List.getD_eq_getElem?_getD]
 cases hl:l[i]? with
 | none => exact Rat.le_refl
 | some x => exact h x (List.mem_of_getElem? hl)
theorem val_nil (W:WP A b C m n K) (hC:∀ x∈C,x≤0) {val:Rat} {X Y:List Rat} (o:OptX A b C m n val X Y):val=0 :=
 opt_nil o.is (fun i _ => getD_pos W.pb i) fun k _ => getD_neg hC k
theorem unb_nil (hC:∀ x∈C,x≤0) {Z:List Rat} (g:UnbX A b C m n Z):False:=by
 obtain ⟨x,hx⟩:=g.is;exact ray_nil hx fun k _ => getD_neg hC k
theorem dual_gain (W:WP A b C m n K):∀ x∈negL b,x≤0:=by
 intro x hx;obtain ⟨y,hy,rfl⟩:=List.mem_map.1 hx;have:=W.pb y hy
 grind
end
section
variable {A : List (List Rat)} {b C x : List Rat} {m n K : Nat}
end
end Go.Proofs.YtileholjbdhmjaaGreatDoor
