/-
  The reference of chapter 13: an optimum and a ray of the simplex method, in lists; the sizes of all sums.
-/
import Derived.Test.YtileholjbdhmjaaGreatDoorRd
import Derived.Test.YtileholjbdhmjaaGreatDoorRe
import Derived.Test.YtileholjbdhmjaaGreatDoorSk
set_option linter.unusedVariables false
set_option linter.unusedSimpArgs false
namespace Go.Proofs.YtileholjbdhmjaaGreatDoor
open Go.RowKit
def szM (K m:Nat):Nat:=m * (Sx.dz K m * K) + (Sx.dz K m * K + Sx.dz K m)
def szE (K m:Nat):Nat:=m * szM K m + szM K m
structure WP (A:List (List Rat)) (b C:List Rat) (m n K:Nat):Prop where
 lA:A.length=m
 rA:∀ r∈A,r.length=n
 lb:b.length=m
 lC:C.length=n
 wA:∀ r∈A,∀ x∈r,Sx.Wh x K
 wb:∀ x∈b,Sx.Wh x K
 wC:∀ x∈C,Sx.Wh x K
 hK:1<=K/\K<=KK
 hm:1<=m/\m<=8
 hn:1<=n/\n<=8
 pb:∀ x∈b,0<=x
 big:8 * (K * szE K m)<=KK
section
variable {A : List (List Rat)} {b C : List Rat} {m n K : Nat}
theorem WP.bigE (W:WP A b C m n K):szE K m<=KK:=by
 have h1:szE K m<=K * szE K m:=Nat.le_mul_of_pos_left _ W.hK.1;have:=W.big;omega
theorem WP.bigM (W:WP A b C m n K):szM K m<=KK:=by
 have:=W.bigE;unfold szE at this;omega
theorem WP.bigD (W:WP A b C m n K):Sx.dz K m<=KK:=by
 have:=W.bigM;unfold szM at this;omega
theorem WP.sz (W:WP A b C m n K):SzD (datL A b C m n) m n (n + m):=datL_sz W.wA W.wb W.wC W.hK.1 W.bigM
theorem WP.den (W:WP A b C m n K) {L:Nat->Nat->Rat} {bs:Nat->Nat} (hF:Sx.Feas (datL A b C m n) L bs) :
  ∃ D:Int,D ≠ 0/\D.natAbs<=Sx.dz K m/\∀ i,i<=m->∀ j,j<=n + m->Sx.Wh (L i j * (D:Rat)) (szM K m):=by
 have hcol:∀ j,j<=(datL A b C m n).w->∀ i,i < (datL A b C m n).m->Sx.Wh ((datL A b C m n).col j i) K:=λ j _ i _ => by
  unfold Sx.Dat.col datL
  show Sx.Wh (if j < n then _ else if j < n + m then _ else _) K
  split
  ·show Sx.Wh ((A.getD i []).getD j 0) K
   rw [List.getD_eq_getElem?_getD (l:=A)]
   cases ha:A[i]? with
   | none => exact getD_wh (l:=[]) (λ x h => by simp at h) j
   | some r => exact getD_wh (W.wA r (List.mem_of_getElem? ha)) j
  ·split
   ·show Sx.Wh (if i=j - n then 1 else 0) K
    split
    ·exact wh_one.mono W.hK.1
    ·exact Sx.wh_zero.mono (Nat.zero_le _)
   ·exact getD_wh W.wb i
 have hcst:∀ j,j<=(datL A b C m n).w->Sx.Wh ((datL A b C m n).cost j) K:=λ j _ => by
  unfold Sx.Dat.cost datL
  show Sx.Wh (if j < n then _ else _) K
  split
  ·exact getD_wh W.wC j
  ·exact Sx.wh_zero.mono (Nat.zero_le _)
 exact hF.inv.size hcol hcst
theorem rle_eq {x y:Rat} (h:x=y):x<=y:=h ▸ Rat.le_refl
def CD (D:Int) (M:Nat) (l:List Rat):Prop:=∀ r∈l,Sx.Wh (r * (D:Rat)) M
theorem wh_ifs {D:Int} {M:Nat} {f:Nat->Rat} {bs:Nat->Nat} {v:Nat} (h:∀ t,t < m->Sx.Wh (f t * (D:Rat)) M):Sx.Wh (Du.sm m (λ t => if bs t=v then f t else 0) * (D:Rat)) (m * M):=by
 rw [<- Sx.sm_mulr];refine Sx.wh_sm M m _ λ t ht => ?_
 split
 ·exact h t ht
 ·rw [Rat.zero_mul]; exact Sx.wh_zero.mono (Nat.zero_le _)
theorem wh_whole {x:Rat} {K:Nat} (h:Sx.Wh x K) (hK:K<=KK):Kb 1 x:=by
 have:=wh_bd (D:=1) (M:=1) (by decide) (by simpa using h) (by decide);unfold Kb;rw [Nat.pow_one];exact ⟨Nat.le_trans this.1 hK,Nat.le_trans this.2 (Nat.le_of_lt kk_one)⟩
theorem wh_kb {x:Rat} {D:Int} {N:Nat} (hD:D ≠ 0) (hDz:D.natAbs<=KK) (h:Sx.Wh (x * (D:Rat)) N) (hN:N<=KK):Kb 1 x:=by
 have:=wh_bd hD h hDz;unfold Kb;rw [Nat.pow_one];exact ⟨Nat.le_trans this.1 hN,this.2⟩
theorem Kb.addS {i j:Nat} {a b:Rat} (h:Kb i a) (g:Kb j b) (hij:i + j + 1 < 12):AddS a b:=by
 refine ⟨h.crS g (by omega),sm_kk hij ?_,sm_kk (n:=i + j) (by omega) (by rw [<- kk_add]; exact Rq.bd_dd h g)⟩;have h1:=Rq.bd_x h g;have h2:=Rq.bd_x g h;rw [kk_add] at h1 h2;have:=kk_two (i + j);rw [Nat.add_comm j i] at h2;omega
theorem dot_cd {D:Int} {K M N:Nat} (hD:D ≠ 0) (hDz:D.natAbs<=KK) (hK:K<=KK) (hM:M<=KK) (hN:N * (K * M)<=KK):∀ (la lb:List Rat) (acc:Rat) (j:Nat),(∀ r∈la,Sx.Wh r K)->CD D M lb->Sx.Wh (acc * (D:Rat)) (j * (K * M))->j + la.length<=N->∃ s,DotS acc la lb (some s)/\Sx.Wh (s * (D:Rat)) (N * (K * M))
 | [],_,acc,j,_,_,hb,hj => ⟨acc,rfl,hb.mono (Nat.mul_le_mul_right _ (by simpa using hj))⟩
 | _ :: _,[],acc,j,_,_,hb,hj => ⟨acc,rfl,hb.mono (Nat.mul_le_mul_right _ (by omega))⟩
 | a :: la,x :: lb,acc,j,h1,h2,hb,hj => by
  rw [List.length_cons] at hj;have ha:=h1 a (by simp);have hx:=h2 x (by simp);have hax:Sx.Wh (a * x * (D:Rat)) (K * M):=by rw [Rat.mul_assoc]; exact ha.mul hx
  have hKM:K * M<=N * (K * M):=Nat.le_mul_of_pos_left _ (by omega);have hjm:j * (K * M)<=N * (K * M):=Nat.mul_le_mul_right _ (by omega);have hs:Sx.Wh ((acc + a * x) * (D:Rat)) ((j + 1) * (K * M)):=by
   rw [Rat.add_mul,Nat.add_mul,Nat.one_mul]; exact hb.add hax
  obtain ⟨s,hs1,hs2⟩:=dot_cd hD hDz hK hM hN la lb (acc + a * x) (j + 1) (λ r hr => h1 r (by simp [hr])) (λ r hr => h2 r (by simp [hr])) hs (by omega);refine ⟨s,.inl ⟨(wh_whole ha hK).mulS (wh_kb hD hDz hx hM) (by decide),?_,hs1⟩,hs2⟩;exact (wh_kb hD hDz hb (by omega)).addS (wh_kb hD hDz hax (by omega)) (by decide)
theorem WP.dot (W:WP A b C m n K) {D:Int} (hD:D ≠ 0) (hDz:D.natAbs<=Sx.dz K m) {la lb:List Rat} (h1:∀ r∈la,Sx.Wh r K) (h2:CD D (szE K m) lb) (hl:la.length<=8):∃ s,DotS 0 la lb (some s)/\Kb 1 s/\s=Du.dotR la lb:=by
 have hDK:=Nat.le_trans hDz W.bigD;obtain ⟨s,hs,hw⟩:=dot_cd hD hDK W.hK.2 W.bigE (Nat.le_trans nl W.big) la lb 0 0 h1 h2 (by rw [Rat.zero_mul]; exact Sx.wh_zero.mono (Nat.zero_le _)) (by omega);exact ⟨s,hs,wh_kb hD hDK hw W.big,dot_of hs⟩
theorem mem_rng {f:Nat->Rat} {n:Nat} {p:Rat->Prop} (h:∀ k,k < n->p (f k)):∀ r∈(List.range n).map f,p r:=by
 intro r hr;obtain ⟨k,hk,rfl⟩:=List.mem_map.1 hr;exact h k (List.mem_range.1 hk)
theorem rng_get (f:Nat->Rat) {n k:Nat} (h:k < n):((List.range n).map f).getD k 0=f k:=by
 rw [List.getD_eq_getElem?_getD,List.getElem?_map,List.getElem?_range h]; rfl
theorem dot_rng {a:List Rat} {f:Nat->Rat} {n:Nat} (h:a.length=n):Du.dotR a ((List.range n).map f)=Du.sm n (λ k => a.getD k 0 * f k):=by
 rw [Du.dot_sm _ _ (by simp [h]),h];exact Du.sm_congr _ _ _ λ k hk => by rw [rng_get f hk]
theorem neg_of {r:Rat} (h:0<=r):negR r=false:=by
 unfold negR;exact decide_eq_false (by have:=Rat.num_nonneg.2 h; omega)
theorem col_getD (A:List (List Rat)) (k i:Nat):(colR A k).getD i 0=(A.getD i []).getD k 0:=by
 unfold colR;rw [List.getD_eq_getElem?_getD,List.getElem?_map,List.getD_eq_getElem?_getD (l:=A)]
 cases A[i]? <;> rfl
theorem gdo13 {l:List Rat} {k:Nat} {x:Rat} (h:l[k]?=some x):l.getD k 0=x:=by rw [List.getD_eq_getElem?_getD,h]; rfl
theorem getDL_of {l:List (List Rat)} {k:Nat} {x:List Rat} (h:l[k]?=some x):l.getD k []=x:=by rw [List.getD_eq_getElem?_getD,h]; rfl
theorem lt_of_get {α:Type} {l:List α} {k:Nat} {x:α} (h:l[k]?=some x):k < l.length:=by
 rcases Nat.lt_or_ge k l.length with h2 | h2
 ·exact h2
 ·rw [List.getElem?_eq_none h2] at h; cases h
structure OptL (A:List (List Rat)) (b C:List Rat) (m n:Nat) (val:Rat) (X Y:List Rat):Prop where
 lX:X.length=n
 lY:Y.length=m
 pY:∀ r∈Y,negR r=false
 col:∀ (k:Nat) (c:Rat),C[k]?=some c->∃ s,DotS 0 (colR A k) Y (some s)/\CrS s c/\c<=s
 row:∀ (k:Nat) (a:List Rat) (bi:Rat),A[k]?=some a->b[k]?=some bi->∃ s,DotS 0 a X (some s)/\CrS s bi
 fit:fitsB A b X=true
 v1:∃ s,DotS 0 C X (some s)/\CrS s val/\s=val
 v2:∃ s,DotS 0 b Y (some s)/\CrS s val/\s=val
theorem OptX.list (W:WP A b C m n K) {val:Rat} {X Y:List Rat} (h:OptX A b C m n val X Y):OptL A b C m n val X Y/\Kb 1 val:=by
 obtain ⟨L,bs,hF,hl,rfl,rfl,rfl⟩:=h;obtain ⟨D,hD,hDz,hsz⟩:=W.den hF;have hDK:=Nat.le_trans hDz W.bigD;have hME:szM K m<=szE K m:=by unfold szE; omega
 have cX:CD D (szE K m) ((List.range n).map (Sx.pnt (datL A b C m n) L bs)):=mem_rng λ k _ => by
  refine (wh_ifs (m:=m) (f:=λ t => L t (n + m)) λ t ht => hsz t (by omega) _ nl).mono ?_;unfold szE; omega
 have cY:CD D (szE K m) ((List.range m).map λ i => L m (n + i)):=mem_rng λ k hk => (hsz m nl (n + k) (by omega)).mono hME
 have kV:Kb 1 (L m (n + m)):=wh_kb hD hDK (hsz m nl _ nl) W.bigM;have kW:∀ {x:Rat},Sx.Wh x K->Kb 1 x:=λ h => wh_whole h W.hK.2
 have hpos:∀ t,t < m->0<=L t (n + m):=hF.pos;have hs:=Sx.inv_sol hF.inv hpos;have hp:=Sx.inv_pri hF.inv hl;have rows:∀ (k:Nat) (a:List Rat),A[k]?=some a->a.length=n/\∀ r∈a,Sx.Wh r K:=λ k a ha => ⟨W.rA a (List.mem_of_getElem? ha),W.wA a (List.mem_of_getElem? ha)⟩
 have wc:∀ k,∀ r∈colR A k,Sx.Wh r K:=λ k r hr => by
  obtain ⟨a,ha,rfl⟩:=List.mem_map.1 hr;exact getD_wh (W.wA a ha) k
 have hm:=W.hm;have hn:=W.hn;refine ⟨⟨by simp,by simp,mem_rng λ i hi => neg_of (hp.pos i hi),?_,?_,?_,?_,?_⟩,kV⟩
 ·intro k c hc;have hk:k < n:=by have:=lt_of_get hc; rw [W.lC] at this; exact this
  obtain ⟨s,h1,h2,h3⟩:=W.dot hD hDz (wc k) cY (by rw [colR_length,W.lA]; omega);refine ⟨s,h1,h2.crS (kW (W.wC c (List.mem_of_getElem? hc))) (by decide),?_⟩;rw [h3,dot_rng (by rw [colR_length,W.lA])];have:=hp.col k hk;have e:(datL A b C m n).C k=c:=gdo13 hc;rw [e] at this;refine Rat.le_trans this (rle_eq (Du.sm_congr _ _ _ λ i _ => ?_));rw [col_getD]; rfl
 ·intro k a bi ha hb;obtain ⟨s,h1,h2,_⟩:=W.dot hD hDz (rows k a ha).2 cX (by rw [(rows k a ha).1]; omega);exact ⟨s,h1,h2.crS (kW (W.wb bi (List.mem_of_getElem? hb))) (by decide)⟩
 ·refine fits_ok (mem_rng λ k hk => neg_of (hs.pos k hk)) (λ k a bi ha hb => ?_) (by rw [W.lA,W.lb]; exact nl);rw [dot_rng (rows k a ha).1];have hk:k < m:=by have:=lt_of_get ha; rw [W.lA] at this; exact this
  have:=hs.row k hk;have e:(datL A b C m n).b k=bi:=gdo13 hb;have e2:∀ j,(datL A b C m n).A k j=a.getD j 0:=λ j => by
   show (A.getD k []).getD j 0=_
   rw [getDL_of ha]
  rw [e] at this;refine Rat.le_trans (rle_eq (Du.sm_congr _ _ _ λ i _ => ?_)) this;rw [e2]
 ·obtain ⟨s,h1,h2,h3⟩:=W.dot hD hDz W.wC cX (by rw [W.lC]; omega);refine ⟨s,h1,h2.crS kV (by decide),?_⟩;rw [h3,dot_rng W.lC];exact Sx.pnt_val hF.inv
 ·obtain ⟨s,h1,h2,h3⟩:=W.dot hD hDz W.wb cY (by rw [W.lb]; omega);refine ⟨s,h1,h2.crS kV (by decide),?_⟩;rw [h3,dot_rng W.lb];exact Sx.pri_val hF.inv
structure RayL (A:List (List Rat)) (C:List Rat) (n:Nat) (X:List Rat):Prop where
 lX:X.length=n
 pX:∀ r∈X,negR r=false
 row:∀ a∈A,∃ s,DotS 0 a X (some s)/\s.num<=0
 val:∃ s,DotS 0 C X (some s)/\0 < s.num
theorem UnbX.list (W:WP A b C m n K) {X:List Rat} (h:UnbX A b C m n X):RayL A C n X:=by
 obtain ⟨L,bs,k,hF,hk,hneg,hcol,rfl⟩:=h;obtain ⟨D,hD,hDz,hsz⟩:=W.den hF;have hm:=W.hm;have hn:=W.hn;have cX:CD D (szE K m) ((List.range n).map (Sx.rayv (datL A b C m n) L bs k)):=mem_rng λ v _ => by
  unfold Sx.rayv;rw [Rat.add_mul];refine ((wh_ifs (m:=m) (f:=λ t => - L t k) λ t ht => by rw [Rat.neg_mul]; exact (hsz t (by omega) k (by omega)).neg).add (L:=Sx.dz K m) ?_).mono ?_
  ·split
   ·rw [Rat.one_mul]; exact ⟨D,rfl,hDz⟩
   ·rw [Rat.zero_mul]; exact Sx.wh_zero.mono (Nat.zero_le _)
  ·unfold szE szM; omega
 refine ⟨by simp,mem_rng λ v _ => neg_of (Sx.ray_nonneg hcol v),?_,?_⟩
 ·intro a ha;obtain ⟨i,hi⟩:=List.getElem?_of_mem ha;have him:i < m:=by have:=lt_of_get hi; rw [W.lA] at this; exact this
  obtain ⟨s,h1,_,h3⟩:=W.dot hD hDz (W.wA a ha) cX (by rw [W.rA a ha]; omega);refine ⟨s,h1,?_⟩;have e2:∀ j,(datL A b C m n).A i j=a.getD j 0:=λ j => by
   show (A.getD i []).getD j 0=_
   rw [getDL_of hi]
  have hr:=Sx.ray_row hF.inv (k:=k) hk (i:=i) him;have hq:=Sx.ray_nonneg (d:=datL A b C m n) (B:=bs) (k:=k) (T:=L) hcol ((datL A b C m n).n + i);have e3:s=Du.sm (datL A b C m n).n (λ v => (datL A b C m n).A i v * Sx.rayv (datL A b C m n) L bs k v):=by
   rw [h3,dot_rng (W.rA a ha)];exact Du.sm_congr _ _ _ λ j _ => by rw [e2]
  rw [<- e3] at hr;have:s<=0:=by grind
  exact Int.not_lt.1 λ h => Rat.not_lt.2 this (rat_pos.2 h)
 ·obtain ⟨s,h1,_,h3⟩:=W.dot hD hDz W.wC cX (by rw [W.lC]; omega);refine ⟨s,h1,?_⟩;have hv:=Sx.ray_val hF.inv (k:=k) hk;have e3:s=Du.sm (datL A b C m n).n (λ v => (datL A b C m n).C v * Sx.rayv (datL A b C m n) L bs k v):=by
   rw [h3,dot_rng W.lC]; rfl
  rw [<- e3] at hv;have h4:L (datL A b C m n).m k < 0:=hneg;exact rat_pos.1 (by rw [hv]; grind)
end
theorem nd20 {n:Nat} (h:n<=1000000):Lib.nDigits n<=20:=by
 by_cases h0:n=0
 ·rw [h0,Lib.nDigits_small (by decide)]; decide
 ·exact (Bi.nd_le h0).2 (by omega)
theorem short_wh {x:Rat} {K:Nat} (h:Sx.Wh x K) (hK:K<=1000000):shortB x=true:=by
 obtain ⟨z,rfl,hz⟩:=h;unfold shortB;rw [Rat.num_intCast,Rat.den_intCast,Lib.decDigits_length,Lib.decDigits_length];have h1:Lib.nDigits z.natAbs<=20:=nd20 (by omega);have h2:Lib.nDigits 1<=20:=nd20 (by omega);simp [h1,h2]
section
variable {A : List (List Rat)} {b C : List Rat} {m n K : Nat}
theorem WP.err (W:WP A b C m n K) (hK:K<=1000000):Prg.err ⟨A.map (·.map some),b.map some,C.map some⟩=0:=by
 have hm:=W.hm;have hn:=W.hn;have hsome:∀ x∈Prg.all ⟨A.map (·.map some),b.map some,C.map some⟩,∃ r,x=some r/\Sx.Wh r K:=by
  intro x hx;unfold Prg.all at hx;simp only [List.mem_append,List.mem_flatten,List.mem_map] at hx;rcases hx with (⟨l,⟨a,ha,rfl⟩,hx⟩ | ⟨r,hr,rfl⟩) | ⟨r,hr,rfl⟩
  ·obtain ⟨r,hr,rfl⟩:=List.mem_map.1 hx;exact ⟨r,rfl,W.wA a ha r hr⟩
  ·exact ⟨r,rfl,W.wb r hr⟩
  ·exact ⟨r,rfl,W.wC r hr⟩
 have hnum:numErr (Prg.all ⟨A.map (·.map some),b.map some,C.map some⟩)=0:=by
  refine numErr_ok (λ x hx => ?_) λ x hx => ?_
  ·obtain ⟨r,rfl,_⟩:=hsome x hx; rfl
  ·obtain ⟨r,rfl,hr⟩:=hsome x hx;simp [longO,short_wh hr hK]
 unfold Prg.err;rw [if_neg (by simp only [List.length_map,W.lA,W.lb,W.lC]; omega),if_neg (by
  rw [Bool.not_eq_true,List.any_eq_false];intro r hr;obtain ⟨a,ha,rfl⟩:=List.mem_map.1 hr;simp [W.rA a ha,W.lC]),if_neg (by rw [hnum]; simp),if_neg]
 rw [Bool.not_eq_true];unfold negQ;rw [List.any_eq_false];intro x hx;obtain ⟨r,hr,rfl⟩:=List.mem_map.1 hx;have:=Rat.num_nonneg.2 (W.pb r hr);simp only [negO,decide_eq_true_eq];omega
theorem unb_nopri {Z:List Rat} {y:Nat->Rat} (g:UnbX A b C m n Z) (hp:Du.Pri m n (datL A b C m n).A (datL A b C m n).C y):False:=by
 obtain ⟨M,cs,k,gF,hk,hn,hc,_⟩:=g;refine Du.ray_none (m:=m) (n:=n) (A:=(datL A b C m n).A) (c:=(datL A b C m n).C) (x:=Sx.rayv (datL A b C m n) M cs k) (y:=y) (λ k' _ => Sx.ray_nonneg hc k') (λ i hi => ?_) ?_ hp
 ·have h1:=Sx.ray_row gF.inv hk hi;have h2:=Sx.ray_nonneg (d:=datL A b C m n) (B:=cs) (k:=k) (T:=M) hc ((datL A b C m n).n + i);have h3:Du.sm n (λ k_1 => (datL A b C m n).A i k_1 * Sx.rayv (datL A b C m n) M cs k k_1) + Sx.rayv (datL A b C m n) M cs k ((datL A b C m n).n + i)=0:=h1
  grind
 ·have h1:=Sx.ray_val gF.inv hk;have h3:Du.sm n (λ v => (datL A b C m n).C v * Sx.rayv (datL A b C m n) M cs k v)=- M m k:=h1;rw [h3]
  grind
theorem opt_noray {val:Rat} {X Y:List Rat} {x:Nat->Rat} (h:OptX A b C m n val X Y) (h1:∀ k,k < n->0<=x k) (h2:∀ i,i < m->Du.sm n (λ k => (datL A b C m n).A i k * x k)<=0) (h3:0 < Du.sm n (λ k => (datL A b C m n).C k * x k)):False:=by
 obtain ⟨L,bs,hF,hl,_⟩:=h;exact Du.ray_none (m:=m) (n:=n) h1 h2 h3 (Sx.inv_pri hF.inv hl)
theorem opt_is {val v:Rat} {X Y:List Rat} {x y:Nat->Rat} (h:OptX A b C m n val X Y) (hs:Du.Sol m n (datL A b C m n).A (datL A b C m n).b x) (hp:Du.Pri m n (datL A b C m n).A (datL A b C m n).C y)
  (e1:Du.sm n (λ k => (datL A b C m n).C k * x k)=v) (e2:Du.sm m (λ i => (datL A b C m n).b i * y i)=v):val=v:=by
 obtain ⟨L,bs,hF,hl,rfl,-,-⟩:=h;have k1:=Du.weak (Sx.inv_sol hF.inv hF.pos) hp;have k2:=Du.weak hs (Sx.inv_pri hF.inv hl);have e3:Du.sm n (λ k => (datL A b C m n).C k * Sx.pnt (datL A b C m n) L bs k)=L m (n + m):=Sx.pnt_val hF.inv;have e4:Du.sm m (λ i => (datL A b C m n).b i * L m (n + i))=L m (n + m):=Sx.pri_val hF.inv;have k1:0<=Du.sm m (λ i => (datL A b C m n).b i * y i) - Du.sm n (λ k => (datL A b C m n).C k * Sx.pnt (datL A b C m n) L bs k):=k1;have k2:0<=Du.sm m (λ i => (datL A b C m n).b i * L m (n + i)) - Du.sm n (λ k => (datL A b C m n).C k * x k):=k2;rw [e2,e3] at k1;rw [e1,e4] at k2;exact Rat.le_antisymm (by grind) (by grind)
end
theorem OW.um {W:World} {B0 B g:Nat} {vA vB vC:Value} {ow:List (Value × List Qo)} {b C:List Qo} (h:OW W B0 B g vA vB vC ow b C):∃ ao cap,vA=.slice ao (ow.map (·.2)).length cap/\UM W ao (ow.map (·.2)):=by
 refine OwnS.um h.t.oA.1 ⟨by simp,λ i row hi => ?_⟩;rw [List.getElem?_map] at hi
 cases hp:ow[i]? with
 | none => rw [hp] at hi; cases hi
 | some p =>
  rw [hp] at hi
  cases hi
  obtain ⟨ar,cr,e,hu⟩:=(h.t.o p (List.mem_of_getElem? hp)).1.read;exact ⟨ar,cr,by rw [List.getElem?_map,hp,<- e]; rfl,hu⟩
theorem OwnP.prg {B0:Nat} {w':World} {A:List (List Qo)} {b C:List Qo} {e:Ending} (h:OwnP B0 w' A b C e):∃ aA cA aB cB aC cC,e=.returned (.agg #[.slice aA A.length cA,.slice aB b.length cB,.slice aC C.length cC])/\UM w' aA A/\UQ w' aB b/\UQ w' aC C:=by
 obtain ⟨vA,vB,vC,B,g,ow,rfl,hO,rfl,_⟩:=h;obtain ⟨aA,cA,rfl,uA⟩:=hO.um;obtain ⟨aB,cB,rfl,uB⟩:=hO.oB.read;obtain ⟨aC,cC,rfl,uC⟩:=hO.oC.read;exact ⟨aA,cA,aB,cB,aC,cC,rfl,uA,uB,uC⟩
def qz (l:List Int):List Rat:=l.map λ z:Int => (z:Rat)
theorem qz_wh {l:List Int} {K:Nat} (h:∀ z∈l,z.natAbs<=K):∀ x∈qz l,Sx.Wh x K:=by
 intro x hx;obtain ⟨z,hz,rfl⟩:=List.mem_map.1 hx;exact ⟨z,rfl,h z hz⟩
theorem qz_pos {l:List Int} (h:∀ z∈l,0<=z):∀ x∈qz l,(0:Rat)<=x:=by
 intro x hx;obtain ⟨z,hz,rfl⟩:=List.mem_map.1 hx;exact Rat.intCast_nonneg.2 (h z hz)
theorem wp_p:WP [qz [1,1],qz [1,0]] (qz [4,3]) (qz [1,2]) 2 2 4:=by
 refine ⟨rfl,?_,rfl,rfl,?_,qz_wh (by decide),qz_wh (by decide),⟨by decide,by unfold KK; decide⟩,by decide,by decide,qz_pos (by decide),by unfold KK; exact of_decide_eq_true (by kernel_rfl)⟩
 ·intro r hr; simp only [List.mem_cons,List.not_mem_nil,or_false] at hr; rcases hr with rfl | rfl <;> rfl
 ·intro r hr; simp only [List.mem_cons,List.not_mem_nil,or_false] at hr; rcases hr with rfl | rfl <;> exact qz_wh (by decide)
theorem wp_q:WP [qz [1,-1]] (qz [1]) (qz [1,1]) 1 2 4:=by
 refine ⟨rfl,?_,rfl,rfl,?_,qz_wh (by decide),qz_wh (by decide),⟨by decide,by unfold KK; decide⟩,by decide,by decide,qz_pos (by decide),by unfold KK; exact of_decide_eq_true (by kernel_rfl)⟩
 ·intro r hr; simp only [List.mem_cons,List.not_mem_nil,or_false] at hr; rcases hr with rfl; rfl
 ·intro r hr; simp only [List.mem_cons,List.not_mem_nil,or_false] at hr; rcases hr with rfl; exact qz_wh (by decide)
def xp (k:Nat):Rat:=if k=1 then 4 else 0
def yp (i:Nat):Rat:=if i=0 then 2 else 0
theorem lt_two {k:Nat} (h:k < 2):k=0\/k=1:=by omega
theorem pri_p:Du.Pri 2 2 (datL [qz [1,1],qz [1,0]] (qz [4,3]) (qz [1,2]) 2 2).A (datL [qz [1,1],qz [1,0]] (qz [4,3]) (qz [1,2]) 2 2).C yp :=
 ⟨λ i hi => by rcases lt_two hi with rfl | rfl <;> exact of_decide_eq_true (by kernel_rfl),λ k hk => by rcases lt_two hk with rfl | rfl <;> exact of_decide_eq_true (by kernel_rfl)⟩
theorem sol_p:Du.Sol 2 2 (datL [qz [1,1],qz [1,0]] (qz [4,3]) (qz [1,2]) 2 2).A (datL [qz [1,1],qz [1,0]] (qz [4,3]) (qz [1,2]) 2 2).b xp :=
 ⟨λ i hi => by rcases lt_two hi with rfl | rfl <;> exact of_decide_eq_true (by kernel_rfl),λ k hk => by rcases lt_two hk with rfl | rfl <;> exact of_decide_eq_true (by kernel_rfl)⟩
theorem val_p {val:Rat} {X Y:List Rat} (h:OptX [qz [1,1],qz [1,0]] (qz [4,3]) (qz [1,2]) 2 2 val X Y):val=((8:Int):Rat) :=
 opt_is h sol_p pri_p (of_decide_eq_true (by kernel_rfl)) (of_decide_eq_true (by kernel_rfl))
theorem unb_p {Z:List Rat} (h:UnbX [qz [1,1],qz [1,0]] (qz [4,3]) (qz [1,2]) 2 2 Z):False:=unb_nopri h pri_p
theorem opt_q {val:Rat} {X Y:List Rat} (h:OptX [qz [1,-1]] (qz [1]) (qz [1,1]) 1 2 val X Y):False :=
 opt_noray (x:=λ _ => 1) h (λ k hk => by exact of_decide_eq_true (by kernel_rfl)) (λ i hi => by obtain rfl:i=0:=(by omega); exact of_decide_eq_true (by kernel_rfl)) (of_decide_eq_true (by kernel_rfl))
def PrgA (w:World) (A:List (List Rat)) (b C:List Rat) (aA aB aC:Option Addr):Prop:=UM w aA (A.map (·.map some))/\UQ w aB (b.map some)/\UQ w aC (C.map some)
theorem PrgA.mono {w w':World} {A:List (List Rat)} {b C:List Rat} {aA aB aC:Option Addr} (h:PrgA w A b C aA aB aC) (hb:Below w.heap.size w w'):PrgA w' A b C aA aB aC:=⟨h.1.mono hb,h.2.1.mono hb,h.2.2.mono hb⟩
theorem iz_row1 {w:World} {g:Nat} {T:TypeId} {x:Int} (h:Row w g T [.int .i64 x]):Iz w (some ⟨g,0,none⟩) [x]:=by
 intro k z hk;have:k=0:=by have:=lt_of_get hk; simp at this; omega
 subst this
 cases hk
 exact ⟨g,0,rfl,h.cell (k:=0) (by simp)⟩
theorem iz_row2 {w:World} {g:Nat} {T:TypeId} {x y:Int} (h:Row w g T [.int .i64 x,.int .i64 y]):Iz w (some ⟨g,0,none⟩) [x,y]:=by
 intro k z hk;have:k=0\/k=1:=by have:=lt_of_get hk; simp at this; omega
 rcases this with rfl | rfl
 ·cases hk
  exact ⟨g,0,rfl,h.cell (k:=0) (by simp)⟩
 ·cases hk
  exact ⟨g,0,rfl,h.cell (k:=1) (by simp)⟩
theorem um_row1 {w:World} {g:Nat} {T:TypeId} {a1:Option Addr} {c1:Nat} {l1:List Qo} (h:Row w g T [.slice a1 l1.length c1]) (h1:UQ w a1 l1):UM w (some ⟨g,0,none⟩) [l1]:=by
 intro k z hk;have:k=0:=by have:=lt_of_get hk; simp at this; omega
 subst this
 cases hk
 exact ⟨g,0,a1,c1,rfl,h.cell (k:=0) (by simp),h1⟩
theorem um_row2 {w:World} {g:Nat} {T:TypeId} {a1 a2:Option Addr} {c1 c2:Nat} {l1 l2:List Qo} (h:Row w g T [.slice a1 l1.length c1,.slice a2 l2.length c2]) (h1:UQ w a1 l1) (h2:UQ w a2 l2):UM w (some ⟨g,0,none⟩) [l1,l2]:=by
 intro k z hk;have:k=0\/k=1:=by have:=lt_of_get hk; simp at this; omega
 rcases this with rfl | rfl
 ·cases hk
  exact ⟨g,0,a1,c1,rfl,h.cell (k:=0) (by simp),h1⟩
 ·cases hk
  exact ⟨g,0,a2,c2,rfl,h.cell (k:=1) (by simp),h2⟩
theorem cmpQ_same {x y:Rat} (h:x=y):Rq.cmpQ x y=0:=by
 subst h;have h1:¬ Rq.cmpQ x x < 0:=λ h => Rat.lt_irrefl (cmpQ_lt.1 h)
 have h2:¬ 0 < Rq.cmpQ x x:=λ h => Rat.lt_irrefl (cmpQ_gt.1 h)
 omega
theorem ne_len {w:World} {n:Nat} {l:List Int} {e:Ending} (hn:l.length=n) (h:ColP w (l.map λ z:Int => (z:Rat)) e):∃ ao cap,e=.returned (.slice ao n cap)/\UQ w ao ((qz l).map some):=by
 obtain ⟨ao,cap,e,hu⟩:=h;rw [List.length_map,hn] at e;exact ⟨ao,cap,e,hu⟩
theorem nums1 (x:Int) (hx:-1000<=x/\x<=1000) (ao:Option Addr) (cap:Nat) (w:World) (hU:Iz w ao [x]) (hE:Env w):Calls Tryz.prog 27 #[.slice ao 1 cap] w λ e w' => (∃ ao cap,e=.returned (.slice ao 1 cap)/\UQ w' ao ((qz [x]).map some))/\Below w.heap.size w w' :=
 (nums13 [x] (hii ⟨by simp,by simpa using hx⟩) ao cap w hU hE).mono λ e w' h => ⟨ne_len rfl h.1,h.2⟩
theorem nums2 (x y:Int) (hx:(-1000<=x/\x<=1000)/\-1000<=y/\y<=1000) (ao:Option Addr) (cap:Nat) (w:World) (hU:Iz w ao [x,y]) (hE:Env w):Calls Tryz.prog 27 #[.slice ao 2 cap] w λ e w' => (∃ ao cap,e=.returned (.slice ao 2 cap)/\UQ w' ao ((qz [x,y]).map some))/\Below w.heap.size w w' :=
 (nums13 [x,y] (hii ⟨by simp,by simpa using hx⟩) ao cap w hU hE).mono λ e w' h => ⟨ne_len rfl h.1,h.2⟩
section
variable {A : List (List Rat)} {b C : List Rat} {m n K : Nat}
theorem WP.own (W:WP A b C m n K) (aA aB aC:Option Addr) (cA cB cC:Nat) (w:World) (h:PrgA w A b C aA aB aC) :
  Calls Tryz.prog 13 #[.agg #[.slice aA m cA,.slice aB m cB,.slice aC n cC]] w λ e w' => (∃ aA cA aB cB aC cC,e=.returned (.agg #[.slice aA m cA,.slice aB m cB,.slice aC n cC])/\PrgA w' A b C aA aB aC)/\Below w.heap.size w w':=by
 have hm:=W.hm;have hn:=W.hn;have hl:∀ r∈A.map (·.map some),(r:List Qo).length<=100000:=λ r hr => by
  obtain ⟨a,ha,rfl⟩:=List.mem_map.1 hr;rw [List.length_map,W.rA a ha]; omega
 have:=own13 (A.map (·.map some)) (b.map some) (C.map some) (hii ⟨by rw [List.length_map,W.lA]; omega,hl⟩) (hii ⟨by rw [List.length_map,W.lb]; omega,by rw [List.length_map,W.lC]; omega⟩) aA aB aC cA cB cC w h.1 h.2.1 h.2.2;rw [List.length_map,List.length_map,List.length_map,W.lA,W.lb,W.lC] at this;refine this.mono λ e w' h => ⟨?_,h.2⟩
 obtain ⟨a1,c1,a2,c2,a3,c3,e1,h1,h2,h3⟩:=h.1.prg;rw [List.length_map,List.length_map,List.length_map,W.lA,W.lb,W.lC] at e1;exact ⟨a1,c1,a2,c2,a3,c3,e1,h1,h2,h3⟩
def SolW (A:List (List Rat)) (b C:List Rat) (m n:Nat) (w':World) (e:Ending):Prop :=
 (∃ ng ao n1 cap nh ap m1 caq ax cx ay cy val X Y,e=.returned (.tuple #[.agg #[.bool ng,.slice ao n1 cap,.bool nh,.slice ap m1 caq,.slice ax n cx,.slice ay m cy],.int .i64 0])/\RatV w' (.agg #[.bool ng,.slice ao n1 cap,.bool nh,.slice ap m1 caq]) val/\UQ w' ax (X.map some)/\UQ w' ay (Y.map some)/\OptX A b C m n val X Y) \/
 (∃ Z,e=.returned (.tuple #[.agg #[.bool false,.slice none 0 0,.bool false,.slice none 0 0,.slice none 0 0,.slice none 0 0],.int .i64 15])/\UnbX A b C m n Z)
theorem WP.solve (W:WP A b C m n K) (hK:K<=1000000) (aA aB aC:Option Addr) (cA cB cC:Nat) (w:World) (h:PrgA w A b C aA aB aC) (hE:Env w) :
  Calls Tryz.prog 12 #[.agg #[.slice aA m cA,.slice aB m cB,.slice aC n cC]] w λ e w' => SolW A b C m n w' e/\Below w.heap.size w w':=by
 have hm:=W.hm;have hn:=W.hn;refine (solve_ok A b C m n (hii (W.err hK)) (hii W.sz) (hii ⟨W.lA,W.rA⟩) (hii ⟨W.lb,W.pb⟩) (hii W.lC) (by omega) (by omega) aA aB aC cA cB cC w h.1 h.2.1 h.2.2 hE).mono λ e w' h => ⟨?_,h.2⟩
 rcases h.1 with ⟨val,X,Y,vo,e1,hO,hX⟩ | h1
 ·obtain ⟨ng,ao,n1,cap,nh,ap,m1,caq,ax,cx,ay,cy,e2,hv,ux,uy⟩:=hO;have hL:=(hX.list W).1;rw [List.length_map,List.length_map,hL.lX,hL.lY] at e2;exact .inl ⟨ng,ao,n1,cap,nh,ap,m1,caq,ax,cx,ay,cy,val,X,Y,by rw [e1,e2],hv,ux,uy,hX⟩
 ·exact .inr h1
theorem WP.ray (W:WP A b C m n K) (hK:K<=1000000) (aA aB aC:Option Addr) (cA cB cC:Nat) (w:World) (h:PrgA w A b C aA aB aC) (hE:Env w) :
  Calls Tryz.prog 14 #[.agg #[.slice aA m cA,.slice aB m cB,.slice aC n cC]] w λ e w' => RayP A b C m n w' e/\Below w.heap.size w w':=by
 have hm:=W.hm;have hn:=W.hn;exact ray_ok A b C m n (hii (W.err hK)) (hii W.sz) (hii ⟨W.lA,W.rA⟩) (hii ⟨W.lb,W.pb⟩) (hii W.lC) (by omega) (by omega) aA aB aC cA cB cC w h.1 h.2.1 h.2.2 hE
theorem WP.optimal (W:WP A b C m n K) {val:Rat} {X Y:List Rat} (hX:OptX A b C m n val X Y) (aA aB aC ax ay:Option Addr) (cA cB cC cx cy:Nat) (ng3:Bool) (ao3:Option Addr) (n3 cap3:Nat) (nh3:Bool) (ap3:Option Addr) (m3 caq3:Nat) (w:World) (h:PrgA w A b C aA aB aC) (hE:Env w) (ux:UQ w ax (X.map some)) (uy:UQ w ay (Y.map some)) (hv:RatV w (.agg #[.bool ng3,.slice ao3 n3 cap3,.bool nh3,.slice ap3 m3 caq3]) val) :
  Calls Tryz.prog 16 #[.agg #[.slice aA m cA,.slice aB m cB,.slice aC n cC],.agg #[.bool ng3,.slice ao3 n3 cap3,.bool nh3,.slice ap3 m3 caq3,.slice ax n cx,.slice ay m cy]] w λ e w' => e=.returned (.bool true)/\Below w.heap.size w w':=by
 have hm:=W.hm;have hn:=W.hn;have hL:=(hX.list W).1;have h1:∀ {l:List Rat},(∃ s,DotS 0 l X (some s)/\CrS s val/\s=val)->∃ s,DotS 0 l X (some s)/\CrS s val/\Rq.cmpQ s val=0:=λ ⟨s,a,b,c⟩ => ⟨s,a,b,cmpQ_same c⟩
 have h2:∀ {l:List Rat},(∃ s,DotS 0 l Y (some s)/\CrS s val/\s=val)->∃ s,DotS 0 l Y (some s)/\CrS s val/\Rq.cmpQ s val=0:=λ ⟨s,a,b,c⟩ => ⟨s,a,b,cmpQ_same c⟩
 have:=roptimal13 A b C X Y val (hii ⟨by rw [W.lA,W.lb],by rw [hL.lY,W.lb],by rw [W.lb]; omega,by rw [W.lC]; omega,by rw [hL.lX,W.lC]⟩) (hii λ r hr => by rw [W.rA r hr,W.lC]) (hii hL.pY) (hii hL.col) (hii hL.row) (hii hL.fit) (hii (h1 hL.v1)) (hii (h2 hL.v2)) ng3 ao3 n3 cap3 nh3 ap3 m3 caq3 ay cy aA aB aC ax cA cB cC cx w h.1 h.2.1 h.2.2 ux hE uy hv;rw [W.lA,W.lb,W.lC,hL.lX,hL.lY] at this;exact this
theorem WP.isray (W:WP A b C m n K) {X:List Rat} (hL:RayL A C n X) (aA aB aC ax:Option Addr) (cA cB cC cx:Nat) (w:World) (h:PrgA w A b C aA aB aC) (hE:Env w) (ux:UQ w ax (X.map some)) :
  Calls Tryz.prog 15 #[.agg #[.slice aA m cA,.slice aB m cB,.slice aC n cC],.slice ax n cx] w λ e w' => e=.returned (.bool true)/\Below w.heap.size w w':=by
 have hm:=W.hm;have hn:=W.hn;have:=risray13 A b C X (hii ⟨by rw [W.lA]; omega,by rw [hL.lX,W.lC],by rw [W.lC]; omega⟩) (hii λ r hr => by rw [W.rA r hr,W.lC]) (hii hL.pX) (hii hL.row) (hii hL.val) aA aB aC ax cA cB cC cx w h.1 h.2.1 h.2.2 ux hE;rw [W.lA,W.lb,W.lC,hL.lX] at this;exact this
end
theorem lists_one {r:Rat} (ax ay:Option Addr) (cx cy:Nat) (w:World) (ux:UQ w ax [some r]) (uy:UQ w ay [some r]) :
  Calls Tryz.prog 20 #[.slice ax 1 cx,.slice ay 1 cy] w λ e w' => e=.returned (.bool true)/\Below w.heap.size w w' :=
 rlists13 [(r.num,(r.den:Int))] (by simp) ax ay cx cy w (UJ.of (l:=[r]) ux) (UJ.of (l:=[r]) uy)
end Go.Proofs.YtileholjbdhmjaaGreatDoor
