/-
  Values of two programs of which each leads into the other: exchanged rows and columns, scaled sides.
-/
import Derived.Test.YtileholjbdhmjaaGreatDoorRg
set_option linter.unusedVariables false
set_option linter.unusedSimpArgs false
namespace Go.Proofs.YtileholjbdhmjaaGreatDoor
open Go.RowKit
def IsOpt (d:Sx.Dat) (v:Rat):Prop:=(∃ x,Du.Sol d.m d.n d.A d.b x∧Du.sm d.n (fun k => d.C k * x k)=v)∧∃ y,Du.Pri d.m d.n d.A d.C y∧Du.sm d.m (fun i => d.b i * y i)=v
structure RayD (d:Sx.Dat) (x:Nat→Rat):Prop where
 pos:∀ k,k < d.n→0≤x k
 row:∀ i,i < d.m→Du.sm d.n (fun k => d.A i k * x k)≤0
 val:0 < Du.sm d.n (fun k => d.C k * x k)
structure MapD (d e:Sx.Dat) (f:Rat) (φ:(Nat→Rat)→Nat→Rat):Prop where
 f0:0 < f
 pos:∀ x,(∀ k,k < d.n→0≤x k)→∀ k,k < e.n→0≤φ x k
 sol:∀ x,(∀ i,i < d.m→Du.sm d.n (fun k => d.A i k * x k)≤d.b i)→∀ i,i < e.m→Du.sm e.n (fun k => e.A i k * φ x k)≤e.b i
 ray:∀ x,(∀ i,i < d.m→Du.sm d.n (fun k => d.A i k * x k)≤0)→∀ i,i < e.m→Du.sm e.n (fun k => e.A i k * φ x k)≤0
 val:∀ x,Du.sm e.n (fun k => e.C k * φ x k)=f * Du.sm d.n (fun k => d.C k * x k)
section
variable {d e : Sx.Dat} {f g u v : Rat} {φ ψ : (Nat → Rat) → Nat → Rat}
theorem IsOpt.ray (h:IsOpt d v) {x:Nat→Rat} (r:RayD d x):False:=by
 obtain ⟨_,y,hy,_⟩:=h;exact Du.ray_none r.pos r.row r.val hy
theorem MapD.toRay (h:MapD d e f φ) {x:Nat→Rat} (r:RayD d x):RayD e (φ x) :=
 ⟨h.pos x r.pos,h.ray x r.row,by rw [h.val]; exact Rat.mul_pos h.f0 r.val⟩
theorem MapD.le (h:MapD d e f φ) (hd:IsOpt d v) (he:IsOpt e u):f * v≤u:=by
 obtain ⟨⟨x,hx,hv⟩,_⟩:=hd;obtain ⟨_,y,hy,hu⟩:=he;have:=Du.weak ⟨h.pos x hx.pos,h.sol x hx.row⟩ hy;rw [h.val,hv,hu] at this
 grind
theorem MapD.eq (h:MapD d e f φ) (h':MapD e d g ψ) (hfg:f * g=1) (hd:IsOpt d v) (he:IsOpt e u):u=f * v:=by
 refine Rat.le_antisymm ?_ (h.le hd he);have h1:=h'.le he hd;have h2:f * (g * u)≤f * v:=Rat.mul_le_mul_of_nonneg_left h1 (Rat.le_of_lt h.f0);rw [← Rat.mul_assoc,hfg,Rat.one_mul] at h2;exact h2
def sw (a b k:Nat):Nat:=if k=a then b else if k=b then a else k
theorem sw_sw (a b k:Nat):sw a b (sw a b k)=k:=by unfold sw; grind
theorem sw_lt {a b k n:Nat} (ha:a < n) (hb:b < n) (hk:k < n):sw a b k < n:=by unfold sw; grind
theorem sm_sw (n a b:Nat) (f:Nat→Rat) (ha:a < n) (hb:b < n):Du.sm n (fun k => f (sw a b k))=Du.sm n f:=by
 have h1:Du.sm n (fun k => if k=a then f b else f k)=Du.sm n f + (f b - f a):=Sx.sm_split n _ f a _ ha (fun k _ hne => by rw [if_neg hne]) (by rw [if_pos rfl]; grind)
 by_cases hab:a=b
 ·refine Du.sm_congr _ _ _ fun k _ => ?_
  unfold sw; subst hab; grind
 ·have h2:Du.sm n (fun k => f (sw a b k))=Du.sm n (fun k => if k=a then f b else f k) + (f a - f b):=Sx.sm_split n _ _ b _ hb (fun k _ hne => by unfold sw; grind) (by unfold sw; grind);rw [h2,h1]; grind
theorem map_sw {m n a a' b b':Nat} {A A':Nat→Nat→Rat} {r r' c c':Nat→Rat} (ha:a < m) (ha':a' < m) (hb:b < n) (hb':b' < n)
  (hA:∀ i k,i < m→k < n→A' i k=A (sw a a' i) (sw b b' k)) (hr:∀ i,i < m→r' i=r (sw a a' i)) (hc:∀ k,k < n→c' k=c (sw b b' k)) :
  MapD ⟨m,n,A,r,c⟩ ⟨m,n,A',r',c'⟩ 1 (fun x k => x (sw b b' k)):=by
 have key:∀ (x:Nat→Rat) (i:Nat),i < m→Du.sm n (fun k => A' i k * x (sw b b' k))=Du.sm n (fun k => A (sw a a' i) k * x k):=fun x i hi => by
  rw [← sm_sw n b b' (fun k => A (sw a a' i) k * x k) hb hb'];exact Du.sm_congr _ _ _ fun k hk => by rw [hA i k hi hk]
 refine ⟨by decide,fun x h k hk => h _ (sw_lt hb hb' hk),fun x h i hi => ?_,fun x h i hi => ?_,fun x => ?_⟩
 ·show Du.sm n (fun k => A' i k * x (sw b b' k))≤r' i
  rw [key x i hi,hr i hi]; exact h _ (sw_lt ha ha' hi)
 ·show Du.sm n (fun k => A' i k * x (sw b b' k))≤0
  rw [key x i hi]; exact h _ (sw_lt ha ha' hi)
 ·show Du.sm n (fun k => c' k * x (sw b b' k))=1 * Du.sm n (fun k => c k * x k)
  rw [Rat.one_mul,← sm_sw n b b' (fun k => c k * x k) hb hb'];exact Du.sm_congr _ _ _ fun k hk => by rw [hc k hk]
theorem sm_scale (n:Nat) (t:Rat) (h:Nat→Rat):Du.sm n (fun k => t * h k)=t * Du.sm n h:=by
 have:=Sx.sm_mulr n t h;rw [Du.sm_congr n _ (fun k => h k * t) fun k _ => by grind,this]; grind
theorem map_gain {m n:Nat} {A:Nat→Nat→Rat} {r c:Nat→Rat} {t:Rat} (ht:0 < t) {c':Nat→Rat} (hc:∀ k,k < n→c' k=t * c k):MapD ⟨m,n,A,r,c⟩ ⟨m,n,A,r,c'⟩ t (fun x => x) :=
 ⟨ht,fun _ h => h,fun _ h => h,fun _ h => h,fun x => by
  show Du.sm n (fun k => c' k * x k)=t * Du.sm n (fun k => c k * x k)
  rw [← sm_scale];exact Du.sm_congr _ _ _ fun k hk => by rw [hc k hk]; grind⟩
theorem map_right {m n:Nat} {A:Nat→Nat→Rat} {r r' c:Nat→Rat} {t:Rat} (ht:0 < t) (hr:∀ i,i < m→r' i=t * r i):MapD ⟨m,n,A,r,c⟩ ⟨m,n,A,r',c⟩ t (fun x k => t * x k):=by
 have key:∀ (a x:Nat→Rat),Du.sm n (fun k => a k * (t * x k))=t * Du.sm n (fun k => a k * x k):=fun a x => by
  rw [← sm_scale];exact Du.sm_congr _ _ _ fun k _ => by grind
 refine ⟨ht,fun x h k hk => Rat.mul_nonneg (Rat.le_of_lt ht) (h k hk),fun x h i hi => ?_,fun x h i hi => ?_,fun x => key c x⟩
 ·show Du.sm n (fun k => A i k * (t * x k))≤r' i
  rw [key,hr i hi];exact Rat.mul_le_mul_of_nonneg_left (h i hi) (Rat.le_of_lt ht)
 ·show Du.sm n (fun k => A i k * (t * x k))≤0
  rw [key];have:=Rat.mul_le_mul_of_nonneg_left (h i hi) (Rat.le_of_lt ht);rw [Rat.mul_zero] at this;exact this
end
section
variable {A : List (List Rat)} {b C : List Rat} {m n : Nat}
theorem OptX.is {val:Rat} {X Y:List Rat} (h:OptX A b C m n val X Y):IsOpt (datL A b C m n) val:=by
 obtain ⟨L,bs,hF,hl,rfl,-,-⟩:=h;exact ⟨⟨_,Sx.inv_sol hF.inv hF.pos,Sx.pnt_val hF.inv⟩,_,Sx.inv_pri hF.inv hl,Sx.pri_val hF.inv⟩
theorem UnbX.is {Z:List Rat} (g:UnbX A b C m n Z):∃ x,RayD (datL A b C m n) x:=by
 obtain ⟨M,cs,k,gF,hk,hn,hc,_⟩:=g;refine ⟨Sx.rayv (datL A b C m n) M cs k,fun k' _ => Sx.ray_nonneg hc k',fun i hi => ?_,?_⟩
 ·have h1:=Sx.ray_row gF.inv hk hi;have h2:=Sx.ray_nonneg (d:=datL A b C m n) (B:=cs) (k:=k) (T:=M) hc ((datL A b C m n).n + i)
  grind
 ·rw [Sx.ray_val gF.inv hk];have hn:M (datL A b C m n).m k < 0:=hn
  grind
end
def swL {α:Type} (l:List α) (z:α) (i:Nat):List α:=(l.set 0 (l.getD i z)).set i (l.getD 0 z)
section
variable {α : Type} {l : List α} {z : α} {i k n : Nat}
theorem swL_len:(swL l z i).length=l.length:=by simp [swL]
theorem swL_get (hi:i < l.length) (hk:k < l.length):(swL l z i).getD k z=l.getD (sw 0 i k) z:=by
 unfold swL sw;rw [List.getD_eq_getElem?_getD]
 by_cases e:k=i
 ·subst e;rw [List.getElem?_set_self (by simpa using hk)]
  by_cases e0:k=0
  ·subst e0; simp
  ·rw [if_neg e0,if_pos rfl]; rfl
 ·rw [List.getElem?_set_ne (fun h => e h.symm)]
  by_cases e0:k=0
  ·subst e0;rw [List.getElem?_set_self (by omega),if_pos rfl]; rfl
  ·rw [List.getElem?_set_ne (fun h => e0 h.symm),if_neg e0,if_neg e,List.getD_eq_getElem?_getD]
theorem swL_mem (hi:i < l.length) {x:α} (h:x∈swL l z i):x∈l:=by
 unfold swL at h;have hg:∀ j,j < l.length→l.getD j z∈l:=fun j hj => by
  rw [List.getD_eq_getElem?_getD,gE hj]; exact List.getElem_mem hj
 rcases List.mem_or_eq_of_mem_set h with h | h
 ·rcases List.mem_or_eq_of_mem_set h with h | h
  ·exact h
  ·rw [h]; exact hg i hi
 ·rw [h]; exact hg 0 (by omega)
end
def exA (A:List (List Rat)) (i k:Nat):List (List Rat):=(swL A [] i).map fun r => swL r 0 k
section
variable {A : List (List Rat)} {b C : List Rat} {m n K i k : Nat}
theorem exA_get (W:WP A b C m n K) (hi:i < m) (hk:k < n) {i' k':Nat} (hi':i' < m) (hk':k' < n):((exA A i k).getD i' []).getD k' 0=(A.getD (sw 0 i i') []).getD (sw 0 k k') 0:=by
 have hs:sw 0 i i' < A.length:=by rw [W.lA]; exact sw_lt (by omega) hi hi'
 have h1:(exA A i k).getD i' []=swL (A.getD (sw 0 i i') []) 0 k:=by
  unfold exA;rw [List.getD_eq_getElem?_getD,List.getElem?_map];have:=swL_get (l:=A) (z:=[]) (i:=i) (k:=i') (by rw [W.lA]; exact hi) (by rw [W.lA]; exact hi');rw [← this,List.getD_eq_getElem?_getD,gE (by rw [swL_len,W.lA]; exact hi')]
  rfl
 have hl:(A.getD (sw 0 i i') []).length=n:=by
  rw [List.getD_eq_getElem?_getD,gE hs];exact W.rA _ (List.getElem_mem hs)
 rw [h1,swL_get (by rw [hl]; exact hk) (by rw [hl]; exact hk')]
theorem WP.ex (W:WP A b C m n K) (hi:i < m) (hk:k < n):WP (exA A i k) (swL b 0 i) (swL C 0 k) m n K:=by
 have hb:∀ x∈swL b 0 i,x∈b:=fun x h => swL_mem (by rw [W.lb]; exact hi) h
 have hC:∀ x∈swL C 0 k,x∈C:=fun x h => swL_mem (by rw [W.lC]; exact hk) h
 have hA:∀ r∈exA A i k,∃ a∈A,r=swL a 0 k:=fun r h => by
  obtain ⟨a,ha,rfl⟩:=List.mem_map.1 h;exact ⟨a,swL_mem (by rw [W.lA]; exact hi) ha,rfl⟩
 refine ⟨by simp [exA,swL_len,W.lA],fun r h => ?_,by rw [swL_len,W.lb],by rw [swL_len,W.lC],fun r h x hx => ?_,fun x h => W.wb x (hb x h),fun x h => W.wC x (hC x h),W.hK,W.hm,W.hn,fun x h => W.pb x (hb x h),W.big⟩
 ·obtain ⟨a,ha,rfl⟩:=hA r h;rw [swL_len,W.rA a ha]
 ·obtain ⟨a,ha,rfl⟩:=hA r h;exact W.wA a ha x (swL_mem (by rw [W.rA a ha]; exact hk) hx)
theorem WP.map_ex (W:WP A b C m n K) (hi:i < m) (hk:k < n):MapD (datL A b C m n) (datL (exA A i k) (swL b 0 i) (swL C 0 k) m n) 1 (fun x t => x (sw 0 k t)) :=
 map_sw (by omega) hi (by omega) hk (fun i' k' hi' hk' => exA_get W hi hk hi' hk') (fun i' hi' => swL_get (by rw [W.lb]; exact hi) (by rw [W.lb]; exact hi')) fun k' hk' => swL_get (by rw [W.lC]; exact hk) (by rw [W.lC]; exact hk')
theorem WP.map_xe (W:WP A b C m n K) (hi:i < m) (hk:k < n):MapD (datL (exA A i k) (swL b 0 i) (swL C 0 k) m n) (datL A b C m n) 1 (fun x t => x (sw 0 k t)):=by
 refine map_sw (A':=fun i k => (A.getD i []).getD k 0) (by omega:0 < m) hi (by omega:0 < n) hk (fun i' k' hi' hk' => ?_) (fun i' hi' => ?_) fun k' hk' => ?_
 ·have:=exA_get W hi hk (sw_lt (by omega:0 < m) hi hi') (sw_lt (by omega:0 < n) hk hk');rw [sw_sw,sw_sw] at this;exact this.symm
 ·have:=swL_get (l:=b) (z:=0) (i:=i) (k:=sw 0 i i') (by rw [W.lb]; exact hi) (by rw [W.lb]; exact sw_lt (by omega:0 < m) hi hi');rw [sw_sw] at this;exact this.symm
 ·have:=swL_get (l:=C) (z:=0) (i:=k) (k:=sw 0 k k') (by rw [W.lC]; exact hk) (by rw [W.lC]; exact sw_lt (by omega:0 < n) hk hk');rw [sw_sw] at this;exact this.symm
end
def scL (f:Rat) (l:List Rat):List Rat:=l.map fun x => x * f
theorem scL_get (f:Rat) (l:List Rat) (k:Nat):(scL f l).getD k 0=f * l.getD k 0:=by
 unfold scL;rw [List.getD_eq_getElem?_getD,List.getElem?_map,List.getD_eq_getElem?_getD]
 cases l[k]? with
 | none => show (0:Rat)=f * 0; grind
 | some x => show x * f=f * x; grind
theorem scL_wh {l:List Rat} {K t:Nat} (h:∀ x∈l,Sx.Wh x K):∀ x∈scL (t:Rat) l,Sx.Wh x (K * t):=by
 intro x hx;obtain ⟨y,hy,rfl⟩:=List.mem_map.1 hx;exact (h y hy).mul ⟨(t:Int),rfl,by rw [Int.natAbs_natCast]; exact nl⟩
section
variable {A : List (List Rat)} {b C : List Rat} {m n K t : Nat}
theorem WP.up (W:WP A b C m n K) {K':Nat} (h1:K≤K') (h2:K'≤KK) (hbig:8 * (K' * szE K' m)≤KK):WP A b C m n K' :=
 ⟨W.lA,W.rA,W.lb,W.lC,fun r hr x hx => (W.wA r hr x hx).mono h1,fun x hx => (W.wb x hx).mono h1,fun x hx => (W.wC x hx).mono h1,⟨Nat.le_trans W.hK.1 h1,h2⟩,W.hm,W.hn,W.pb,hbig⟩
theorem tinv (ht:0 < t):(t:Rat) * (1 / (t:Rat))=1:=by
 have h:(t:Rat) ≠ 0:=by exact_mod_cast Nat.pos_iff_ne_zero.1 ht
 rw [Rat.mul_comm]; exact Rat.div_mul_cancel h
theorem tpos (ht:0 < t):(0:Rat) < (t:Rat):=by exact_mod_cast ht
theorem ipos (ht:0 < t):(0:Rat) < 1 / (t:Rat):=by
 have h1:=tinv ht;have h2:=tpos ht;refine Rat.not_le.1 fun h => ?_
 have:=Rat.mul_le_mul_of_nonneg_left h (Rat.le_of_lt h2);rw [h1,Rat.mul_zero] at this
 grind
theorem map_gain' (ht:0 < t):MapD (datL A b C m n) (datL A b (scL (t:Rat) C) m n) t (fun x => x):=map_gain (tpos ht) fun k _ => scL_get _ _ k
theorem map_gain'' (ht:0 < t):MapD (datL A b (scL (t:Rat) C) m n) (datL A b C m n) (1 / (t:Rat)) (fun x => x):=map_gain (ipos ht) fun k _ => by
 show C.getD k 0=1 / (t:Rat) * (scL (t:Rat) C).getD k 0
 rw [scL_get,← Rat.mul_assoc,Rat.mul_comm (1 / (t:Rat)),tinv ht,Rat.one_mul]
theorem map_right' (ht:0 < t):MapD (datL A b C m n) (datL A (scL (t:Rat) b) C m n) t (fun x k => (t:Rat) * x k):=map_right (tpos ht) fun k _ => scL_get _ _ k
theorem map_right'' (ht:0 < t):MapD (datL A (scL (t:Rat) b) C m n) (datL A b C m n) (1 / (t:Rat)) (fun x k => 1 / (t:Rat) * x k):=map_right (ipos ht) fun k _ => by
 show b.getD k 0=1 / (t:Rat) * (scL (t:Rat) b).getD k 0
 rw [scL_get,← Rat.mul_assoc,Rat.mul_comm (1 / (t:Rat)),tinv ht,Rat.one_mul]
end
structure TwoP (A:List (List Rat)) (b C:List Rat) (A':List (List Rat)) (b' C':List Rat) (m n:Nat) (f:Rat):Prop where
 val:∀ {v v':Rat} {X Y X' Y':List Rat},OptX A b C m n v X Y→OptX A' b' C' m n v' X' Y'→v'=f * v
 unb:∀ {v:Rat} {X Y Z:List Rat},OptX A b C m n v X Y→UnbX A' b' C' m n Z→False
 opt:∀ {v:Rat} {X Y Z:List Rat},UnbX A b C m n Z→OptX A' b' C' m n v X Y→False
theorem MapD.two {A A':List (List Rat)} {b b' C C':List Rat} {m n:Nat} {f g:Rat} {φ ψ:(Nat→Rat)→Nat→Rat} (h:MapD (datL A b C m n) (datL A' b' C' m n) f φ) (h':MapD (datL A' b' C' m n) (datL A b C m n) g ψ) (e:f * g=1):TwoP A b C A' b' C' m n f :=
 ⟨fun o o' => h.eq h' e o.is o'.is,fun o u => by obtain ⟨x,hx⟩:=u.is; exact o.is.ray (h'.toRay hx),fun u o => by obtain ⟨x,hx⟩:=u.is; exact o.is.ray (h.toRay hx)⟩
section
variable {A : List (List Rat)} {b C : List Rat} {m n K t : Nat}
theorem two_gain (ht:0 < t):TwoP A b C A b (scL (t:Rat) C) m n t:=(map_gain' ht).two (map_gain'' ht) (tinv ht)
theorem two_right (ht:0 < t):TwoP A b C A (scL (t:Rat) b) C m n t:=(map_right' ht).two (map_right'' ht) (tinv ht)
theorem two_ex (W:WP A b C m n K) {i k:Nat} (hi:i < m) (hk:k < n):TwoP A b C (exA A i k) (swL b 0 i) (swL C 0 k) m n 1:=(W.map_ex hi hk).two (W.map_xe hi hk) (Rat.one_mul 1)
end
theorem big20 {m:Nat} (h:m≤8):8 * (20 * szE 20 m)≤KK:=by
 unfold KK;exact (of_decide_eq_true (by kernel_rfl):∀ m,m < 9→8 * (20 * szE 20 m)≤10 ^ 25) m (by omega)
theorem big180 {m:Nat} (h:m≤6):8 * (180 * szE 180 m)≤KK:=by
 unfold KK;exact (of_decide_eq_true (by kernel_rfl):∀ m,m < 7→8 * (180 * szE 180 m)≤10 ^ 25) m (by omega)
theorem k180:180≤KK:=by unfold KK; exact of_decide_eq_true (by kernel_rfl)
section
variable {A : List (List Rat)} {b C : List Rat} {m n t : Nat}
theorem WP.scC9 (W:WP A b C m n 20) (hm:m≤6) (ht:0 < t) (h9:t≤9):WP A b (scL (t:Rat) C) m n 180:=by
 have U:=W.up (K':=180) (by omega) k180 (big180 hm);exact ⟨U.lA,U.rA,U.lb,by simp [scL,W.lC],U.wA,U.wb,fun x hx => (scL_wh W.wC x hx).mono (by omega),U.hK,U.hm,U.hn,U.pb,U.big⟩
theorem WP.scB9 (W:WP A b C m n 20) (hm:m≤6) (ht:0 < t) (h9:t≤9):WP A (scL (t:Rat) b) C m n 180:=by
 have U:=W.up (K':=180) (by omega) k180 (big180 hm);refine ⟨U.lA,U.rA,by simp [scL,W.lb],U.lC,U.wA,fun x hx => (scL_wh W.wb x hx).mono (by omega),U.wC,U.hK,U.hm,U.hn,fun x hx => ?_,U.big⟩;obtain ⟨y,hy,rfl⟩:=List.mem_map.1 hx;exact Rat.mul_nonneg (W.pb y hy) (by exact_mod_cast Nat.zero_le t)
theorem qz_len (l:List Int):(qz l).length=l.length:=by simp [qz]
theorem wp_int {Z:List (List Int)} {y c:List Int} (h1:Z.length=y.length) (h2:∀ r∈Z,r.length=c.length) (h3:∀ r∈Z,∀ z∈r,z.natAbs≤20) (h4:∀ z∈y,0≤z∧z≤20) (h5:∀ z∈c,z.natAbs≤20) (hm:1≤y.length∧y.length≤8) (hn:1≤c.length∧c.length≤8) :
  WP (Z.map qz) (qz y) (qz c) y.length c.length 20:=by
 refine ⟨by rw [List.length_map,h1],fun r hr => ?_,qz_len y,qz_len c,fun r hr x hx => ?_,qz_wh fun z hz => by have:=h4 z hz; omega,qz_wh h5,⟨by omega,Nat.le_trans (by decide) k180⟩,hm,hn,qz_pos fun z hz => (h4 z hz).1,big20 hm.2⟩
 ·obtain ⟨l,hl,rfl⟩:=List.mem_map.1 hr;rw [qz_len,h2 l hl]
 ·obtain ⟨l,hl,rfl⟩:=List.mem_map.1 hr;exact qz_wh (h3 l hl) x hx
end
section
variable {A : List (List Rat)} {b C : List Rat} {m n K : Nat}
end
section
variable {A : List (List Rat)} {b C x : List Rat} {m n K : Nat}
end
end Go.Proofs.YtileholjbdhmjaaGreatDoor
