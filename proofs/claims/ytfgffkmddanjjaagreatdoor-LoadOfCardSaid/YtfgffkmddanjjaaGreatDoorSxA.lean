/-
  Determinants, plain: linear and alternating in the rows; what a combination of the rows tells of the coefficients; whole numbers and their size.
-/
import Derived.Test.YtfgffkmddanjjaaGreatDoorOQ
import Derived.Test.YtfgffkmddanjjaaGreatDoorSd
import Derived.Deep.LoopGhost
set_option linter.unusedVariables false
set_option linter.unusedSimpArgs false
set_option maxRecDepth 100000
set_option maxHeartbeats 25600000
namespace Sx
open Du
theorem sm_one(n s:Nat)(f:Nat->Rat)(hs:s<n)(h:∀k,k<n->k≠s->f k=0):sm n f=f s:=by
 induction n with
 |zero=>omega
 |succ n ih=>
  simp only[sm]
  by_cases e:s=n
  ·subst e;rw[sm_congr s f (λ_=>0) (λk hk=>h k oM oM),sm_zero];grind
  ·rw[ih oM (λk hk hne=>h k oM hne),h n oM oM];grind
theorem znS(n s:Nat)(f:Nat->Rat)(hs:s+1<n)(h:∀k,k<n->k≠s->k≠s+1->f k=0):sm n f=f s+f (s+1):=by
 induction n with
 |zero=>omega
 |succ n ih=>
  simp only[sm]
  by_cases e:s+1=n
  ·subst e;rw[sm_one (s+1) s f oM (λk hk hne=>h k oM hne oM)]
  ·rw[ih oM (λk hk h1 h2=>h k oM h1 h2),h n oM oM oM];grind
def rem(A:Nat->Nat->Rat)(i:Nat):Nat->Nat->Rat:=λr c=>A (if r<i then r else r+1) (c+1)
def sg(i:Nat):Rat:=if i % 2=0 then 1 else -1
def det:Nat->(Nat->Nat->Rat)->Rat
 |0,_=>1
 |n+1,A=>sm (n+1) (λi=>sg i*(A i 0*det n (rem A i)))
theorem zmq(i:Nat):sg (i+1)=- sg i:=by
 unfold sg
 by_cases h:i % 2=0
 ·rw[if_pos h,if_neg oM]
 ·rw[if_neg h,if_pos oM];grind
theorem zbN:∀(n:Nat)(A B:Nat->Nat->Rat),(∀r c,r<n->c<n->A r c=B r c)->det n A=det n B
 |0,_,_,_=>rfl
 |n+1,A,B,h=>by
  simp only[det];refine sm_congr _ _ _ λi hi=>?_
  rw[h i 0 hi oM,zbN n (rem A i) (rem B i) (λr c hr hc=>?_)];unfold rem;refine h _ _ ?_ oM
  split<;>omega
def zaA(A:Nat->Nat->Rat)(s:Nat)(v:Nat->Rat):Nat->Nat->Rat:=λr c=>if r=s then v c else A r c
theorem zdd(A:Nat->Nat->Rat)(s:Nat)(v:Nat->Rat):rem (zaA A s v) s=rem A s:=by
 funext r c
 unfold rem zaA
 by_cases h:r<s
 ·rw[if_pos h,if_neg oM]
 ·rw[if_neg h,if_neg oM]
theorem zdc(A:Nat->Nat->Rat){s i:Nat}(v:Nat->Rat)(h:s≠i):rem (zaA A s v) i=zaA (rem A i) (if s<i then s else s-1) (λc=>v (c+1)):=by
 funext r c
 unfold rem zaA
 by_cases h1:r<i
 ·rw[if_pos h1]
  by_cases h2:r=s
  ·rw[if_pos h2,if_pos (by rw[if_pos oM];exact h2)]
  ·rw[if_neg h2,if_neg (by split<;>omega)]
   show _=A (if r<i then r else r+1) (c+1)
   rw[if_pos h1]
 ·rw[if_neg h1]
  by_cases h2:r+1=s
  ·rw[if_pos h2,if_pos (by rw[if_neg oM];omega)]
  ·rw[if_neg h2,if_neg (by split<;>omega)]
   show _=A (if r<i then r else r+1) (c+1)
   rw[if_neg h1]
theorem zdZ:∀(n:Nat)(A:Nat->Nat->Rat)(s:Nat)(a:Rat)(u v:Nat->Rat),s<n ->
  det n (zaA A s (λc=>a*u c+v c))=a*det n (zaA A s u)+det n (zaA A s v)
 |0,_,_,_,_,_,h=>by omega
 |n+1,A,s,a,u,v,hs=>by
  simp only[det];rw[<-zb2,<-zcR];refine sm_congr _ _ _ λi hi=>?_
  by_cases e:s=i
  ·subst e;rw[zdd,zdd,zdd];simp only[zaA,if_pos]
   grind
  ·rw[zdc A _ e,zdc A _ e,zdc A _ e,zdZ n (rem A i) _ a (λc=>u (c+1)) (λc=>v (c+1)) (by split<;>omega)];have e2:∀w:Nat->Rat,zaA A s w i 0=A i 0:=λw=>by unfold zaA;rw[if_neg (λh=>e h.symm)]
   rw[e2,e2,e2]
   grind
theorem zg4:∀(n:Nat)(A:Nat->Nat->Rat)(s:Nat),s+1<n->(∀c,c<n->A s c=A (s+1) c)->det n A=0
 |0,_,_,h,_=>by omega
 |n+1,A,s,hs,h=>by
  simp only[det];rw[znS (n+1) s _ hs]
  ·have e:det n (rem A s)=det n (rem A (s+1)):=by
    refine zbN n _ _ λr c hr hc=>?_
    unfold rem
    by_cases h1:r<s
    ·rw[if_pos h1,if_pos oM]
    ·rw[if_neg h1]
     by_cases h2:r<s+1
     ·rw[if_pos h2];obtain rfl:r=s:=oM;exact(h (c+1) oM).symm
     ·rw[if_neg h2]
   rw[e,h 0 oM,zmq];grind
  ·intro k hk h1 h2;have:det n (rem A k)=0:=by
    refine zg4 n (rem A k) (if s<k then s else s-1) (by split<;>omega) λc hc=>?_
    unfold rem
    by_cases h3:s<k
    ·rw[if_pos h3,if_pos h3,if_pos oM];exact h _ oM
    ·rw[if_neg h3,if_neg oM,if_neg oM];rw[show s-1+1=s by omega];exact h _ oM
   rw[this];grind
def zdI(A:Nat->Nat->Rat)(s:Nat):Nat->Nat->Rat:=λr c=>if r=s then A (s+1) c else if r=s+1 then A s c else A r c
theorem zkT(A:Nat->Nat->Rat)(s:Nat):zaA A s (A s)=A:=by
 funext r c;unfold zaA;split
 ·next h=>rw[h]
 ·rfl
theorem zg5(n:Nat)(A:Nat->Nat->Rat)(s:Nat)(u v:Nat->Rat)(h:s<n):det n (zaA A s (λc=>u c+v c))=det n (zaA A s u)+det n (zaA A s v):=by
 have:=zdZ n A s 1 u v h;rw[Rat.one_mul]at this;rw[<-this];refine zbN n _ _ λr c _ _=>?_
 unfold zaA;split<;>grind
theorem zlo(n:Nat)(A:Nat->Nat->Rat)(s:Nat)(hs:s+1<n):det n (zdI A s)=- det n A:=by
 let X (u v:Nat->Rat):=zaA (zaA A s u) (s+1) v
 have hX:∀u v r c,X u v r c=if r=s+1 then v c else if r=s then u c else A r c:=λu v r c=>rfl
 have hc:∀u v,X u v=zaA (zaA A (s+1) v) s u:=λu v=>by
  funext r c;rw[hX];unfold zaA
  by_cases h1:r=s
  ·rw[if_neg oM,if_pos h1,if_pos h1]
  ·rw[if_neg h1,if_neg h1]
 let p:=A s
 let q:=A (s+1)
 have z:∀u,det n (X u u)=0:=λu=>zg4 n _ s hs λc _=>by
  rw[hX,hX,if_neg oM,if_pos rfl,if_pos rfl]
 have e1:det n (X (λc=>p c+q c) (λc=>p c+q c))=det n (X p p)+det n (X p q)+(det n (X q p)+det n (X q q)):=by
  rw[hc,zg5 n _ s p q oM,<-hc,<-hc]
  show det n (zaA (zaA A s p) (s+1) _)+det n (zaA (zaA A s q) (s+1) _)=_
  rw[zg5 n _ (s+1) p q hs,zg5 n _ (s+1) p q hs]
 rw[z,z,z]at e1;have e2:X p q=A:=by
  funext r c;rw[hX]
  by_cases h1:r=s+1
  ·rw[if_pos h1,h1]
  ·rw[if_neg h1]
   by_cases h2:r=s
   ·rw[if_pos h2,h2]
   ·rw[if_neg h2]
 have e3:X q p=zdI A s:=by
  funext r c;rw[hX];unfold zdI
  by_cases h1:r=s+1
  ·rw[if_pos h1,if_neg oM,if_pos h1]
  ·rw[if_neg h1]
   by_cases h2:r=s
   ·rw[if_pos h2,if_pos h2]
   ·rw[if_neg h2,if_neg h2,if_neg h1]
 rw[e2,e3]at e1
 grind
theorem zj1:∀(d n:Nat)(A:Nat->Nat->Rat)(s:Nat),s+1+d<n->(∀c,c<n->A s c=A (s+1+d) c)->det n A=0
 |0,n,A,s,h,he=>zg4 n A s h he
 |d+1,n,A,s,h,he=>by
  have h1:=zlo n A s oM;have h2:=zj1 d n (zdI A s) (s+1) oM λc hc=>by
   unfold zdI;rw[if_neg oM,if_pos rfl,if_neg oM,if_neg oM,he c hc]
   congr 1;omega
  rw[h2]at h1
  grind
theorem zlp(n:Nat)(A:Nat->Nat->Rat)(s t:Nat)(hs:s<n)(ht:t<n)(hne:s≠t)(h:∀c,c<n->A s c=A t c):det n A=0:=by
 rcases Nat.lt_or_gt_of_ne hne with hlt|hlt
 ·exact zj1 (t-s-1) n A s oM λc hc=>by rw[h c hc];congr 1;omega
 ·exact zj1 (s-t-1) n A t oM λc hc=>by rw[<-h c hc];congr 1;omega
theorem zhY(n:Nat)(A:Nat->Nat->Rat)(s:Nat)(hs:s<n)(c:Nat->Rat):∀m,m<=n ->
  det n (zaA A s (λj=>sm m (λt=>c t*A t j)))=(if s<m then c s else 0)*det n A
 |0,_=>by
  rw[if_neg oM,Rat.zero_mul];have:=zdZ n A s 0 (λ_=>0) (λ_=>0) hs;have e:det n (zaA A s (λ_=>0))=0:=by
   have h:(λc:Nat=>(0:Rat)*(λ_:Nat=>(0:Rat)) c+(λ_:Nat=>(0:Rat)) c)=λ_=>0:=by funext c;grind
   rw[h]at this;have h2:=zdZ n A s (-1) (λ_=>0) (λ_=>0) hs;have h3:(λc:Nat=>(-1:Rat)*(λ_:Nat=>(0:Rat)) c+(λ_:Nat=>(0:Rat)) c)=λ_=>0:=by funext c;grind
   rw[h3]at h2
   grind
  exact e
 |m+1,hm=>by
  have ih:=zhY n A s hs c m oM;have e:(λj=>sm (m+1) (λt=>c t*A t j))=λj=>c m*A m j+sm m (λt=>c t*A t j):=by
   funext j;simp only[sm];grind
  rw[e,zdZ n A s (c m) (A m) (λj=>sm m (λt=>c t*A t j)) hs,ih]
  by_cases h:s=m
  ·subst h;rw[zkT,if_neg oM,if_pos oM];grind
  ·have:det n (zaA A s (A m))=0:=by
    refine zlp n _ s m hs oM h λc _=>?_
    unfold zaA;rw[if_pos rfl,if_neg (λe=>h e.symm)]
   rw[this]
   by_cases h2:s<m
   ·rw[if_pos h2,if_pos oM];grind
   ·rw[if_neg h2,if_neg oM];grind
theorem zgh(n:Nat)(A:Nat->Nat->Rat)(c a:Nat->Rat)(h:∀j,j<n->sm n (λt=>c t*A t j)=a j)(s:Nat)(hs:s<n):det n (zaA A s a)=c s*det n A:=by
 have:=zhY n A s hs c n nl;rw[if_pos hs]at this;rw[<-this];refine zbN n _ _ λr j _ hj=>?_
 unfold zaA;simp only[h j hj]
theorem zhX:∀(n:Nat)(A:Nat->Nat->Rat),(∀c,c<n->A n c=0)->det (n+1) A=A n n*det n A
 |0,A,_=>by simp only[det,sm,sg];grind
 |n+1,A,h=>by
  rw[det,sm];have e:sg (n+1)*(A (n+1) 0*det (n+1) (rem A (n+1)))=0:=by rw[h 0 oM];grind
  rw[e,Rat.add_zero];rw[show det (n+1) A=sm (n+1) (λi=>sg i*(A i 0*det n (rem A i)))from rfl,<-zb2];refine sm_congr _ _ _ λi hi=>?_
  rw[zhX n (rem A i) (λc hc=>by unfold rem;rw[if_neg oM];exact h (c+1) oM)];have:rem A i n n=A (n+1) (n+1):=by unfold rem;rw[if_neg oM]
  rw[this];grind
def Wh(x:Rat)(K:Nat):Prop:=∃z:Int,x=(z:Rat)/\z.natAbs<=K
theorem wh_zero:Wh 0 0:=⟨0,rfl,sM⟩
theorem Wh.mono{x:Rat}{K L:Nat}(h:Wh x K)(hl:K<=L):Wh x L:=by
 obtain⟨z,e,hz⟩:=h;exact⟨z,e,oM⟩
theorem Wh.add{x y:Rat}{K L:Nat}(h:Wh x K)(g:Wh y L):Wh (x+y) (K+L):=by
 obtain⟨z,rfl,hz⟩:=h;obtain⟨t,rfl,ht⟩:=g;exact⟨z+t,(Rat.intCast_add z t).symm,oM⟩
theorem Wh.mul{x y:Rat}{K L:Nat}(h:Wh x K)(g:Wh y L):Wh (x*y) (K*L):=by
 obtain⟨z,rfl,hz⟩:=h;obtain⟨t,rfl,ht⟩:=g;exact⟨z*t,(Rat.intCast_mul z t).symm,by rw[Int.natAbs_mul];exact Nat.mul_le_mul hz ht⟩
theorem Wh.neg{x:Rat}{K:Nat}(h:Wh x K):Wh (-x) K:=by
 obtain⟨z,rfl,hz⟩:=h;exact⟨-z,(Rat.intCast_neg z).symm,oM⟩
theorem zoW(i:Nat):Wh (sg i) 1:=by
 unfold sg;split
 ·exact⟨1,rfl,sM⟩
 ·exact⟨-1,rfl,sM⟩
theorem wh_sm(K:Nat):∀(n:Nat)(f:Nat->Rat),(∀i,i<n->Wh (f i) K)->Wh (sm n f) (n*K)
 |0,f,_=>by simp only[sm];exact wh_zero.mono oM
 |n+1,f,h=>by
  simp only[sm];exact((wh_sm K n f (λi hi=>h i oM)).add (h n oM)).mono (by rw[Nat.succ_mul];omega)
def dz(K:Nat):Nat->Nat
 |0=>1
 |n+1=>(n+1)*(K*dz K n)
theorem zfB(K:Nat):∀(n:Nat)(A:Nat->Nat->Rat),(∀r c,r<n->c<n->Wh (A r c) K)->Wh (det n A) (dz K n)
 |0,A,_=>⟨1,rfl,by simp[dz]⟩
 |n+1,A,h=>by
  simp only[det,dz];refine wh_sm _ _ _ λi hi=>?_
  have h1:=zfB K n (rem A i) (λr c hr hc=>by
   unfold rem;refine h _ _ ?_ oM
   split<;>omega)
  exact((zoW i).mul ((h i 0 hi oM).mul h1)).mono oM
end Sx
namespace Sx
open Du
theorem zkQ(n:Nat)(f g:Nat->Rat)(i:Nat)(d:Rat)(hi:i<n)(h:∀k,k<n->k≠i->f k=g k)(he:f i=g i+d):sm n f=sm n g+d:=by
 have h1:sm n (λk=>f k-g k)=d:=by
  rw[sm_one n i _ hi (λk hk hne=>by rw[h k hk hne];grind),he];grind
 rw[zhr]at h1
 grind
theorem sm_mulr(n:Nat)(c:Rat)(f:Nat->Rat):sm n (λk=>f k*c)=sm n f*c:=by
 rw[Rat.mul_comm,<-zb2];exact sm_congr _ _ _ λk _=>Rat.mul_comm _ _
theorem zeW(m n:Nat)(F:Nat->Nat->Rat):sm m (λi=>sm n (λk=>F i k))=sm n (λk=>sm m (λi=>F i k)):=by
 induction m with
 |zero=>simp only[sm];exact(sm_zero n).symm
 |succ m ih=>simp only[sm,ih];rw[<-zcR]
structure Dat where
 m:Nat
 n:Nat
 A:Nat->Nat->Rat
 b:Nat->Rat
 C:Nat->Rat
namespace Dat
variable (d : Dat)
def w:Nat:=d.n+d.m
def col(j i:Nat):Rat:=if j<d.n then d.A i j else if j<d.n+d.m then(if i=j-d.n then 1 else 0)else d.b i
def cost(j:Nat):Rat:=if j<d.n then d.C j else 0
structure Inv(T:Nat->Nat->Rat)(B:Nat->Nat):Prop where
 bas:∀t,t<d.m->B t<d.w
 comb:∀j,j<=d.w->∀i,i<d.m->d.col j i=sm d.m (λt=>T t j*d.col (B t) i)
 last:∀j,j<=d.w->T d.m j=sm d.m (λt=>T t j*d.cost (B t))-d.cost j
 det:det d.m (λt i=>d.col (B t) i)≠0
end Dat
section
variable {d : Dat} {T T' : Nat → Nat → Rat} {B B' : Nat → Nat}
theorem Dat.Inv.uniq(h:d.Inv T B)(c c':Nat->Rat)(he:∀i,i<d.m->sm d.m (λt=>c t*d.col (B t) i)=sm d.m (λt=>c' t*d.col (B t) i)):∀s,s<d.m->c s=c' s:=by
 intro s hs;have h1:=zgh d.m (λt i=>d.col (B t) i) c (λi=>sm d.m (λt=>c' t*d.col (B t) i)) he s hs;have h2:=zgh d.m (λt i=>d.col (B t) i) c' (λi=>sm d.m (λt=>c' t*d.col (B t) i)) (λ_ _=>rfl) s hs;rw[h1]at h2;have h3:(c s-c' s)*Sx.det d.m (λt i=>d.col (B t) i)=0:=by grind
 rcases Rat.mul_eq_zero.1 h3 with h4|h4
 ·grind
 ·exact absurd h4 h.det
theorem zbS(n s:Nat)(hs:s<n)(f:Nat->Rat):sm n (λt=>(if t=s then(1:Rat)else 0)*f t)=f s:=by
 rw[sm_one n s _ hs (λk _ hne=>by rw[if_neg hne];grind),if_pos rfl];grind
theorem Dat.Inv.unit(h:d.Inv T B){t s:Nat}(ht:t<d.m)(hs:s<d.m):T t (B s)=if t=s then 1 else 0:=by
 refine h.uniq (λt=>T t (B s)) (λt=>if t=s then 1 else 0) (λi hi=>?_) t ht;have:=h.bas s hs;rw[<-h.comb (B s) oM i hi,zbS d.m s hs]
theorem Dat.Inv.lastB(h:d.Inv T B){s:Nat}(hs:s<d.m):T d.m (B s)=0:=by
 have:=h.bas s hs;rw[h.last (B s) oM,sm_congr d.m _ (λt=>(if t=s then(1:Rat)else 0)*d.cost (B t)) (λt ht=>by rw[h.unit ht hs]),zbS d.m s hs];grind
theorem Dat.Inv.inj(h:d.Inv T B){t s:Nat}(ht:t<d.m)(hs:s<d.m)(e:B t=B s):t=s:=by
 have h1:=h.unit ht ht;have h2:=h.unit ht hs;rw[e,h2]at h1
 by_cases hh:t=s
 ·exact hh
 ·rw[if_neg hh,if_pos rfl]at h1;exact absurd h1 dM
theorem Dat.Inv.same(h:d.Inv T B)(h':d.Inv T' B')(e:∀t,t<d.m->B t=B' t):∀t,t<=d.m->∀j,j<=d.w->T t j=T' t j:=by
 have h0:∀j,j<=d.w->∀t,t<d.m->T t j=T' t j:=λj hj=>by
  refine h.uniq (λt=>T t j) (λt=>T' t j) λi hi=>?_
  rw[<-h.comb j hj i hi,h'.comb j hj i hi];exact sm_congr _ _ _ λt ht=>by rw[e t ht]
 intro t ht j hj
 by_cases hm:t<d.m
 ·exact h0 j hj t hm
 ·obtain rfl:t=d.m:=oM;rw[h.last j hj,h'.last j hj,sm_congr d.m _ _ λt ht=>by rw[h0 j hj t ht,e t ht]]
theorem zc4{i s:Nat}(hs:s<d.m):d.col (d.n+s) i=if i=s then 1 else 0:=by
 unfold Dat.col;rw[if_neg oM,if_pos oM,show d.n+s-d.n=s by omega]
theorem zde(s:Nat):d.cost (d.n+s)=0:=by
 unfold Dat.cost;rw[if_neg oM]
theorem Dat.Inv.back(h:d.Inv T B){t j:Nat}(ht:t<d.m)(hj:j<=d.w):T t j=sm d.m (λi=>T t (d.n+i)*d.col j i):=by
 refine h.uniq (λt=>T t j) (λt=>sm d.m (λi=>T t (d.n+i)*d.col j i)) (λr hr=>?_) t ht;rw[<-h.comb j hj r hr];have e1:sm d.m (λt=>sm d.m (λi=>T t (d.n+i)*d.col j i)*d.col (B t) r)=sm d.m (λi=>d.col j i*sm d.m (λt=>T t (d.n+i)*d.col (B t) r)):=by
  rw[sm_congr d.m _ (λt=>sm d.m (λi=>d.col j i*(T t (d.n+i)*d.col (B t) r))) λt _=>by
   rw[<-sm_mulr];exact sm_congr _ _ _ λi _=>by grind]
  rw[zeW];exact sm_congr _ _ _ λi _=>zb2 _ _ _
 rw[e1,sm_congr d.m _ (λi=>(if i=r then(1:Rat)else 0)*d.col j i) λi hi=>by
  rw[<-h.comb (d.n+i) (by unfold Dat.w;omega) r hr,zc4 hi]
  by_cases hh:i=r
  ·rw[if_pos hh,if_pos hh.symm];grind
  ·rw[if_neg hh,if_neg (λe=>hh e.symm)];grind]
 rw[zbS d.m r hr]
theorem Dat.Inv.backL(h:d.Inv T B){j:Nat}(hj:j<=d.w):T d.m j=sm d.m (λi=>T d.m (d.n+i)*d.col j i)-d.cost j:=by
 rw[h.last j hj];have e1:sm d.m (λi=>T d.m (d.n+i)*d.col j i)=sm d.m (λt=>T t j*d.cost (B t)):=by
  rw[sm_congr d.m _ (λi=>sm d.m (λt=>(T t (d.n+i)*d.cost (B t))*d.col j i)) λi hi=>by
   rw[h.last (d.n+i) (by unfold Dat.w;omega),zde,sm_mulr];grind]
  rw[zeW];refine sm_congr _ _ _ λt ht=>?_
  rw[h.back ht hj,<-sm_mulr];exact sm_congr _ _ _ λi _=>by grind
 rw[e1]
structure Piv(d:Dat)(T:Nat->Nat->Rat)(B:Nat->Nat)(r k:Nat)(T':Nat->Nat->Rat)(B':Nat->Nat):Prop where
 row:∀j,j<=d.w->T' r j=T r j / T r k
 others:∀t,t<=d.m->t≠r->∀j,j<=d.w->T' t j=T t j-T t k*T' r j
 bas:B' r=k
 basO:∀t,t<d.m->t≠r->B' t=B t
theorem zjA{r k:Nat}(hp:Piv d T B r k T' B')(hr:r<d.m)(h0:T r k≠0)(f:Nat->Rat){j:Nat}(hj:j<=d.w) :
  sm d.m (λt=>T' t j*f (B' t))=sm d.m (λt=>T t j*f (B t))-T' r j*sm d.m (λt=>T t k*f (B t))+T' r j*f k:=by
 rw[zkQ d.m _ (λt=>T t j*f (B t)-T' r j*(T t k*f (B t))) r (T' r j*f k) hr,zhr,zb2]
 ·intro t ht hne;rw[hp.others t oM hne j hj,hp.basO t ht hne];grind
 ·rw[hp.bas];have:T' r j*T r k=T r j:=by rw[hp.row j hj];exact Rat.div_mul_cancel h0
  grind
theorem Dat.Inv.piv{r k:Nat}(h:d.Inv T B)(hp:Piv d T B r k T' B')(hr:r<d.m)(hk:k<d.w)(h0:T r k≠0):d.Inv T' B':=by
 refine⟨λt ht=>?_,λj hj i hi=>?_,λj hj=>?_,?_⟩
 ·by_cases e:t=r
  ·rw[e,hp.bas];exact hk
  ·rw[hp.basO t ht e];exact h.bas t ht
 ·rw[zjA hp hr h0 (λv=>d.col v i) hj,<-h.comb j hj i hi,<-h.comb k oM i hi];grind
 ·rw[zjA hp hr h0 d.cost hj,hp.others d.m nl oM j hj,h.last j hj,h.last k oM];grind
 ·have h1:=zgh d.m (λt i=>d.col (B t) i) (λt=>T t k) (λi=>d.col k i) (λi hi=>(h.comb k oM i hi).symm) r hr;have h2:Sx.det d.m (λt i=>d.col (B' t) i)=Sx.det d.m (zaA (λt i=>d.col (B t) i) r (λi=>d.col k i)):=by
   refine zbN _ _ _ λt i ht _=>?_
   unfold zaA
   by_cases e:t=r
   ·rw[if_pos e,e,hp.bas]
   ·rw[if_neg e,hp.basO t ht e]
  rw[h2,h1];intro hz;rcases Rat.mul_eq_zero.1 hz with hz|hz
  ·exact h0 hz
  ·exact h.det hz
theorem zj0:∀n,det n (λt i=>if i=t then(1:Rat)else 0)=1
 |0=>rfl
 |n+1=>by
  rw[zhX n _ (λc hc=>if_neg oM),zj0 n,if_pos rfl];grind
theorem inv_start(h1:∀t,t<d.m->∀j,j<=d.w->T t j=d.col j t)(h2:∀j,j<=d.w->T d.m j=- d.cost j)(h3:∀t,t<d.m->B t=d.n+t):d.Inv T B:=by
 refine⟨λt ht=>by rw[h3 t ht];unfold Dat.w;omega,λj hj i hi=>?_,λj hj=>?_,?_⟩
 ·rw[sm_congr d.m _ (λt=>(if t=i then(1:Rat)else 0)*d.col j t) λt ht=>by
   rw[h1 t ht j hj,h3 t ht,zc4 ht]
   by_cases e:t=i
   ·rw[if_pos e,if_pos e.symm];grind
   ·rw[if_neg e,if_neg (λh=>e h.symm)];grind]
  rw[zbS d.m i hi]
 ·rw[h2 j hj,sm_congr d.m _ (λ_=>0) λt ht=>by rw[h3 t ht,zde];grind];rw[sm_zero];grind
 ·rw[zbN d.m _ (λt i=>if i=t then(1:Rat)else 0) λt i ht _=>by rw[h3 t ht,zc4 ht],zj0]
  decide
theorem Dat.Inv.size(h:d.Inv T B){K:Nat}(hK:∀j,j<=d.w->∀i,i<d.m->Wh (d.col j i) K)(hC:∀j,j<=d.w->Wh (d.cost j) K) :
  ∃D:Int,D≠0/\D.natAbs<=dz K d.m/\∀t,t<=d.m->∀j,j<=d.w->Wh (T t j*(D:Rat)) (d.m*(dz K d.m*K)+(dz K d.m*K+dz K d.m)):=by
 have hP:∀r c,r<d.m->c<d.m->Wh (d.col (B r) c) K:=λr c hr hc=>hK _ (by have:=h.bas r hr;omega) c hc
 obtain⟨D,hD,hDz⟩:=zfB K d.m (λt i=>d.col (B t) i) hP;have h0:∀t,t<d.m->∀j,j<=d.w->Wh (T t j*(D:Rat)) (dz K d.m):=λt ht j hj=>by
  have h1:=zgh d.m (λt i=>d.col (B t) i) (λt=>T t j) (λi=>d.col j i) (λi hi=>(h.comb j hj i hi).symm) t ht;rw[<-hD,<-h1];refine zfB K d.m _ λr c hr hc=>?_
  unfold zaA
  by_cases e:r=t
  ·rw[if_pos e];exact hK j hj c hc
  ·rw[if_neg e];exact hP r c hr hc
 refine⟨D,λe=>h.det (by rw[hD,e];rfl),hDz,λt ht j hj=>?_⟩
 by_cases hm:t<d.m
 ·exact(h0 t hm j hj).mono oM
 ·obtain rfl:t=d.m:=oM;have e:T d.m j*(D:Rat)=sm d.m (λt=>T t j*(D:Rat)*d.cost (B t))+ -(d.cost j*(D:Rat)):=by
   rw[h.last j hj,sm_congr d.m (λt=>T t j*(D:Rat)*d.cost (B t)) (λt=>(D:Rat)*(T t j*d.cost (B t))) λt _=>by grind,zb2];grind
  rw[e];have w1:=wh_sm (dz K d.m*K) d.m (λt=>T t j*(D:Rat)*d.cost (B t)) λt ht=>(h0 t ht j hj).mul (hC _ (by have:=h.bas t ht;omega))
  have w2:Wh (d.cost j*(D:Rat)) (K*dz K d.m):=(hC j hj).mul ⟨D,rfl,hDz⟩;exact(w1.add w2.neg).mono (by rw[Nat.mul_comm K];omega)
def pnt(d:Dat)(T:Nat->Nat->Rat)(B:Nat->Nat)(v:Nat):Rat:=sm d.m (λt=>if B t=v then T t d.w else 0)
theorem zev(hr:∀t,t<d.m->0<=T t d.w)(v:Nat):0<=pnt d T B v:=by
 refine sm_nonneg _ _ λt ht=>?_
 split
 ·exact hr t ht
 ·exact Rat.le_refl
theorem zeS(h:d.Inv T B)(q:Nat->Rat)(f:Nat->Rat):sm d.w (λv=>sm d.m (λt=>if B t=v then q t else 0)*f v)=sm d.m (λt=>q t*f (B t)):=by
 rw[sm_congr d.w _ (λv=>sm d.m (λt=>(if B t=v then q t else 0)*f v)) λv _=>(sm_mulr _ _ _).symm,zeW];refine sm_congr _ _ _ λt ht=>?_
 rw[sm_one d.w (B t) _ (h.bas t ht) λk _ hne=>by rw[if_neg (λe=>hne e.symm)];grind,if_pos rfl]
theorem zfJ(n m:Nat)(f:Nat->Rat):sm (n+m) f=sm n f+sm m (λi=>f (n+i)):=by
 induction m with
 |zero=>simp only[sm,Nat.add_zero];grind
 |succ m ih=>rw[<-Nat.add_assoc,sm,ih,sm];grind
theorem zhn(z:Nat->Rat){i:Nat}(hi:i<d.m):sm d.w (λv=>z v*d.col v i)=sm d.n (λk=>d.A i k*z k)+z (d.n+i):=by
 unfold Dat.w;rw[zfJ]
 congr 1
 ·refine sm_congr _ _ _ λk hk=>?_
  unfold Dat.col;rw[if_pos hk];grind
 ·rw[sm_congr d.m _ (λs=>(if s=i then(1:Rat)else 0)*z (d.n+s)) λs hs=>by
   rw[zc4 hs]
   by_cases e:s=i
   ·rw[if_pos e,if_pos e.symm];grind
   ·rw[if_neg e,if_neg (λh=>e h.symm)];grind]
  rw[zbS d.m i hi]
theorem zhm(z:Nat->Rat):sm d.w (λv=>z v*d.cost v)=sm d.n (λk=>d.C k*z k):=by
 unfold Dat.w;rw[zfJ,sm_congr d.m _ (λ_=>0) λs _=>by rw[zde];grind];rw[sm_zero,Rat.add_zero];refine sm_congr _ _ _ λk hk=>?_
 unfold Dat.cost;rw[if_pos hk];grind
theorem col_right(i:Nat):d.col d.w i=d.b i:=by unfold Dat.col Dat.w;rw[if_neg oM,if_neg oM]
theorem zeI:d.cost d.w=0:=by unfold Dat.cost Dat.w;rw[if_neg oM]
theorem zmE(h:d.Inv T B){i:Nat}(hi:i<d.m):sm d.n (λk=>d.A i k*pnt d T B k)+pnt d T B (d.n+i)=d.b i:=by
 rw[<-zhn _ hi];unfold pnt;rw[zeS h (λt=>T t d.w) (λv=>d.col v i),<-h.comb d.w nl i hi,col_right]
theorem pnt_val(h:d.Inv T B):sm d.n (λk=>d.C k*pnt d T B k)=T d.m d.w:=by
 rw[<-zhm];unfold pnt;rw[zeS h (λt=>T t d.w) d.cost,h.last d.w nl,zeI];grind
theorem inv_sol(h:d.Inv T B)(hr:∀t,t<d.m->0<=T t d.w):Sol d.m d.n d.A d.b (pnt d T B) :=
 ⟨λk _=>zev hr k,λi hi=>by
  have h1:=zmE h hi;have h2:=zev hr (B:=B) (d.n+i)
  grind⟩
theorem inv_pri(h:d.Inv T B)(hl:∀j,j<d.w->0<=T d.m j):Pri d.m d.n d.A d.C (λi=>T d.m (d.n+i)) :=
 ⟨λi hi=>hl _ (by unfold Dat.w;omega),λk hk=>by
  have hk':k<=d.w:=by unfold Dat.w;omega
  have h1:=h.backL hk';have h2:=hl k (by unfold Dat.w;omega);have e1:d.cost k=d.C k:=by unfold Dat.cost;rw[if_pos hk]
  have e2:sm d.m (λi=>T d.m (d.n+i)*d.col k i)=sm d.m (λi=>d.A i k*T d.m (d.n+i)):=sm_congr _ _ _ λi _=>by
   unfold Dat.col;rw[if_pos hk];grind
  rw[e1,e2]at h1
  grind⟩
theorem pri_val(h:d.Inv T B):sm d.m (λi=>d.b i*T d.m (d.n+i))=T d.m d.w:=by
 have h1:=h.backL (j:=d.w) nl;rw[zeI,sm_congr d.m _ (λi=>d.b i*T d.m (d.n+i)) λi _=>by rw[col_right];grind]at h1
 grind
def rayv(d:Dat)(T:Nat->Nat->Rat)(B:Nat->Nat)(k v:Nat):Rat:=sm d.m (λt=>if B t=v then-T t k else 0)+(if v=k then 1 else 0)
theorem ray_row(h:d.Inv T B){k i:Nat}(hk:k<d.w)(hi:i<d.m):sm d.n (λv=>d.A i v*rayv d T B k v)+rayv d T B k (d.n+i)=0:=by
 rw[<-zhn _ hi];unfold rayv;rw[sm_congr d.w _ (λv=>sm d.m (λt=>if B t=v then-T t k else 0)*d.col v i+(if v=k then(1:Rat)else 0)*d.col v i) λv _=>by grind];rw[zcR,zeS h (λt=>- T t k) (λv=>d.col v i),zbS d.w k hk (λv=>d.col v i),h.comb k oM i hi,
  sm_congr d.m (λt=>- T t k*d.col (B t) i) (λt=>(-1)*(T t k*d.col (B t) i)) λt _=>by grind,zb2]
 grind
theorem ray_val(h:d.Inv T B){k:Nat}(hk:k<d.w):sm d.n (λv=>d.C v*rayv d T B k v)=- T d.m k:=by
 rw[<-zhm];unfold rayv;rw[sm_congr d.w _ (λv=>sm d.m (λt=>if B t=v then-T t k else 0)*d.cost v+(if v=k then(1:Rat)else 0)*d.cost v) λv _=>by grind];rw[zcR,zeS h (λt=>- T t k) d.cost,zbS d.w k hk d.cost,h.last k oM,
  sm_congr d.m (λt=>- T t k*d.cost (B t)) (λt=>(-1)*(T t k*d.cost (B t))) λt _=>by grind,zb2]
 grind
theorem ray_nonneg{k:Nat}(hk:∀t,t<d.m->T t k<=0)(v:Nat):0<=rayv d T B k v:=by
 have h1:0<=sm d.m (λt=>if B t=v then-T t k else 0):=sm_nonneg _ _ λt ht=>by
  have:=hk t ht
  split<;>grind
 unfold rayv
 split<;>grind
end
end Sx
namespace Sx
open Du
def Ent(d:Dat)(T:Nat->Nat->Rat)(k:Nat):Prop:=k<d.w/\T d.m k<0/\∀j,j<k->0<=T d.m j
def Lev(d:Dat)(T:Nat->Nat->Rat)(B:Nat->Nat)(k r:Nat):Prop :=
 r<d.m/\0<T r k/\∀t,t<d.m->0<T t k->T r d.w / T r k<T t d.w / T t k\/(T r d.w / T r k=T t d.w / T t k/\B r<=B t)
structure Feas(d:Dat)(T:Nat->Nat->Rat)(B:Nat->Nat):Prop where
 inv:d.Inv T B
 pos:∀t,t<d.m->0<=T t d.w
structure Step(d:Dat)(T:Nat->Nat->Rat)(B:Nat->Nat)(k r:Nat)(T':Nat->Nat->Rat)(B':Nat->Nat):Prop where
 ent:Ent d T k
 lev:Lev d T B k r
 piv:Piv d T B r k T' B'
section
variable {d : Dat} {T T' : Nat → Nat → Rat} {B B' : Nat → Nat} {k r : Nat}
theorem zjz{x:Rat}(h:0<x):x≠0:=λe=>by rw[e]at h;exact Rat.lt_irrefl h
theorem div_mul'{x p:Rat}(h:p≠0):x / p*p=x:=Rat.div_mul_cancel h
theorem div_nonneg'{x p:Rat}(hx:0<=x)(hp:0<p):0<=x / p:=by
 rw[Rat.div_def];exact Rat.mul_nonneg hx (Rat.le_of_lt (Rat.inv_pos.2 hp))
theorem Step.feas(h:Feas d T B)(s:Step d T B k r T' B'):Feas d T' B':=by
 obtain⟨⟨hk,hneg,_⟩,⟨hr,hp,hmin⟩,hv⟩:=s;refine⟨h.inv.piv hv hr hk (zjz hp),λt ht=>?_⟩;have er:=hv.row d.w nl;have h0:=div_nonneg' (h.pos r hr) hp
 by_cases e:t=r
 ·rw[e,er];exact h0
 ·rw[hv.others t oM e d.w nl,er];have ht0:=h.pos t ht
  by_cases hc:0<T t k
  ·have hle:T r d.w / T r k<=T t d.w / T t k:=by
    rcases hmin t ht hc with h1|h1
    ·exact Rat.le_of_lt h1
    ·rw[h1.1];exact Rat.le_refl
   have h2:=Rat.mul_le_mul_of_nonneg_left hle (Rat.le_of_lt hc);have h3:T t k*(T t d.w / T t k)=T t d.w:=by rw[Rat.mul_comm];exact div_mul' (zjz hc)
   grind
  ·have h1:T t k<=0:=Rat.not_lt.1 hc;have h2:0<=(- T t k)*(T r d.w / T r k):=Rat.mul_nonneg (by grind) h0
   grind
theorem Step.val(s:Step d T B k r T' B'):T' d.m d.w=T d.m d.w-T d.m k*(T r d.w / T r k):=by
 have hr:=s.lev.1;rw[s.piv.others d.m nl oM d.w nl,s.piv.row d.w nl]
end
structure zck(d:Dat)(n:Nat)(T:Nat->Nat->Nat->Rat)(B:Nat->Nat->Nat)(e l:Nat->Nat):Prop where
 feas:∀i,i<=n->Feas d (T i) (B i)
 step:∀i,i<n->Step d (T i) (B i) (e i) (l i) (T (i+1)) (B (i+1))
section
variable {d : Dat} {n : Nat} {T : Nat → Nat → Nat → Rat} {B : Nat → Nat → Nat} {e l : Nat → Nat}
def inB(d:Dat)(B:Nat->Nat)(v:Nat):Prop:=∃t,t<d.m/\B t=v
theorem zck.entered(h:zck d n T B e l){v:Nat}:∀(q i:Nat),i+q<=n->¬inB d (B i) v->inB d (B (i+q)) v->∃j,i<=j/\j<i+q/\e j=v
 |0,i,_,h1,h2=>absurd h2 h1
 |q+1,i,hq,h1,h2=>by
  by_cases h3:inB d (B (i+q)) v
  ·obtain⟨j,a,b,c⟩:=h.entered q i oM h1 h3;exact⟨j,a,oM,c⟩
  ·have s:=h.step (i+q) oM;obtain⟨t,ht,ev⟩:=h2;refine⟨i+q,oM,oM,?_⟩
   by_cases hl:t=l (i+q)
   ·have hb:=s.piv.bas;rw[<-hl]at hb;rw[<-ev,<-hb];rfl
   ·have hb:=s.piv.basO t ht hl;exact absurd ⟨t,ht,by rw[<-ev,show i+(q+1)=i+q+1 by omega,hb]⟩ h3
theorem zck.left(h:zck d n T B e l){v:Nat}:∀(q i:Nat),i+q<=n->inB d (B i) v->¬inB d (B (i+q)) v->∃j,i<=j/\j<i+q/\B j (l j)=v
 |0,i,_,h1,h2=>absurd h1 h2
 |q+1,i,hq,h1,h2=>by
  by_cases h3:inB d (B (i+q)) v
  ·have s:=h.step (i+q) oM;obtain⟨t,ht,ev⟩:=h3;refine⟨i+q,oM,oM,?_⟩
   by_cases hl:t=l (i+q)
   ·rw[<-hl];exact ev
   ·have hb:=s.piv.basO t ht hl;exact absurd ⟨t,ht,by rw[show i+(q+1)=i+q+1 by omega,hb];exact ev⟩ h2
  ·obtain⟨j,a,b,c⟩:=h.left q i oM h1 h3;exact⟨j,a,oM,c⟩
theorem zfS{T:Nat->Nat->Rat}{B:Nat->Nat}{k r:Nat}(h:Feas d T B)(hl:Lev d T B k r):0<=T r d.w / T r k:=div_nonneg' (h.pos r hl.1) hl.2.1
theorem zck.grows(h:zck d n T B e l):∀(q i:Nat),i+q<=n->T i d.m d.w<=T (i+q) d.m d.w
 |0,i,_=>Rat.le_refl
 |q+1,i,hq=>by
  have h1:=h.grows q i oM;have s:=h.step (i+q) oM;have h2:=s.val;have h3:=zfS (h.feas (i+q) oM) s.lev;have h4:0<=(- T (i+q) d.m (e (i+q)))*(T (i+q) (l (i+q)) d.w / T (i+q) (l (i+q)) (e (i+q))):=Rat.mul_nonneg (by have:=s.ent.2.1;grind) h3;rw[show i+(q+1)=i+q+1 by omega]
  grind
theorem zck.still(h:zck d n T B e l){a b:Nat}(hb:b<=n)(hv:T a d.m d.w=T b d.m d.w){i:Nat}(h1:a<=i)(h2:i<b):T i (l i) d.w=0:=by
 have s:=h.step i oM;have g1:=h.grows (i-a) a oM;have g2:=h.grows (b-(i+1)) (i+1) oM;rw[show a+(i-a)=i by omega]at g1;rw[show i+1+(b-(i+1))=b by omega]at g2;have h3:=s.val;have hq:=zfS (h.feas i oM) s.lev;have hn:=s.ent.2.1;have h4:0<=(- T i d.m (e i))*(T i (l i) d.w / T i (l i) (e i)):=Rat.mul_nonneg (by grind) hq;have h5:T i d.m (e i)*(T i (l i) d.w / T i (l i) (e i))=0:=by grind
 rcases Rat.mul_eq_zero.1 h5 with h6|h6
 ·rw[h6]at hn;exact absurd hn Rat.lt_irrefl
 ·have:=div_mul' (x:=T i (l i) d.w) (zjz s.lev.2.1);rw[h6]at this
  grind
theorem zck.rhs(h:zck d n T B e l){a b:Nat}(hb:b<=n)(hv:T a d.m d.w=T b d.m d.w){t:Nat}(ht:t<d.m):∀q,a+q<=b->T (a+q) t d.w=T a t d.w
 |0,_=>rfl
 |q+1,hq=>by
  have s:=h.step (a+q) oM;have z:=h.still hb hv (i:=a+q) oM oM;have er:=s.piv.row d.w nl;rw[z,Rat.div_def,Rat.zero_mul]at er;rw[show a+(q+1)=a+q+1 by omega,<-h.rhs hb hv ht q oM]
  by_cases hl:t=l (a+q)
  ·rw[hl,er,z]
  ·rw[s.piv.others t oM hl d.w nl,er];grind
theorem zck.keeps(h:zck d n T B e l){a b:Nat}(hb:b<=n)(hv:T a d.m d.w=T b d.m d.w){t:Nat}(ht:t<d.m)(hne:T a t d.w≠0):∀q,a+q<=b->B (a+q) t=B a t
 |0,_=>rfl
 |q+1,hq=>by
  have s:=h.step (a+q) oM;have z:=h.still hb hv (i:=a+q) oM oM;rw[show a+(q+1)=a+q+1 by omega,<-h.keeps hb hv ht hne q oM];refine s.piv.basO t ht λhl=>hne ?_
  rw[<-h.rhs hb hv ht q oM,hl];exact z
theorem zl1(f:Nat->Nat):∀q a,0<q->∃j,a<=j/\j<a+q/\∀i,a<=i->i<a+q->f i<=f j
 |0,_,h=>by omega
 |1,a,_=>⟨a,oM,oM,λi h1 h2=>Nat.le_of_eq (congrArg f oM)⟩
 |q+2,a,_=>by
  obtain⟨j,h1,h2,h3⟩:=zl1 f (q+1) a oM
  by_cases hc:f j<=f (a+(q+1))
  ·refine⟨a+(q+1),oM,oM,λi g1 g2=>?_⟩
   by_cases e:i=a+(q+1)
   ·subst e;exact nl
   ·exact Nat.le_trans (h3 i g1 oM) hc
  ·refine⟨j,h1,oM,λi g1 g2=>?_⟩
   by_cases e:i=a+(q+1)
   ·subst e;omega
   ·exact h3 i g1 oM
theorem zlO:∀(m:Nat)(f:Nat->Rat),0<sm m f->∃t,t<m/\0<f t
 |0,f,h=>absurd h (by simp only[sm];exact Rat.lt_irrefl)
 |m+1,f,h=>by
  by_cases hm:0<f m
  ·exact⟨m,oM,hm⟩
  ·obtain⟨t,ht,hf⟩:=zlO m f (by simp only[sm]at h;grind);exact⟨t,oM,hf⟩
theorem zkN{T U:Nat->Nat->Rat}{B D:Nat->Nat}(h:d.Inv T B)(g:d.Inv U D){s:Nat}(hs:s<=d.w):U d.m s=T d.m s+sm d.m (λt=>T t s*U d.m (B t)):=by
 have h1:=g.backL hs;have e1:sm d.m (λi=>U d.m (d.n+i)*d.col s i)=sm d.m (λt=>T t s*(U d.m (B t)+d.cost (B t))):=by
  rw[sm_congr d.m _ (λi=>sm d.m (λt=>T t s*(U d.m (d.n+i)*d.col (B t) i))) λi hi=>by
   rw[h.comb s hs i hi,<-zb2];exact sm_congr _ _ _ λt _=>by grind]
  rw[zeW];refine sm_congr _ _ _ λt ht=>?_
  have hb:=h.bas t ht;rw[zb2,g.backL (j:=B t) oM];grind
 have h2:=h.last s hs;rw[e1,sm_congr d.m _ (λt=>T t s*U d.m (B t)+T t s*d.cost (B t)) λt _=>by grind,zcR]at h1
 grind
theorem zck.once(h:zck d n T B e l){a b:Nat}(hab:a<b)(hb:b<=n)(hB:∀t,t<d.m->B a t=B b t):False:=by
 have hv:T a d.m d.w=T b d.m d.w:=(h.feas a oM).inv.same (h.feas b hb).inv hB d.m nl d.w nl;have hin:∀v,inB d (B a) v↔inB d (B b) v:=λv=>⟨λ⟨t,ht,ev⟩=>⟨t,ht,by rw[<-hB t ht];exact ev⟩,λ⟨t,ht,ev⟩=>⟨t,ht,by rw[hB t ht];exact ev⟩⟩
 obtain⟨p,hp1,hp2,hmax⟩:=zl1 e (b-a) a oM;rw[show a+(b-a)=b by omega]at hp2 hmax;have sp:=h.step p oM;have fp:=h.feas p oM;have hent:∀i v,a<=i->i<=b->inB d (B i) v->¬inB d (B p) v->v<=e p:=λi v h1 h2 h3 h4=>by
  by_cases hpi:p<=i
  ·obtain⟨j,j1,j2,rfl⟩:=h.entered (i-p) p oM h4 (by rw[show p+(i-p)=i by omega];exact h3);exact hmax j oM oM
  ·by_cases hbv:inB d (B b) v
   ·obtain⟨j,j1,j2,rfl⟩:=h.entered (b-p) p oM h4 (by rw[show p+(b-p)=b by omega];exact hbv);exact hmax j oM oM
   ·have hav:¬inB d (B a) v:=λhh=>hbv ((hin v).1 hh)
    obtain⟨j,j1,j2,rfl⟩:=h.entered (i-a) a oM hav (by rw[show a+(i-a)=i by omega];exact h3);exact hmax j oM oM
 have hnp:¬inB d (B p) (e p):=λ⟨t,ht,ev⟩=>by
  have h1:=fp.inv.lastB ht;have h2:=sp.ent.2.1;rw[ev]at h1;rw[h1]at h2;exact Rat.lt_irrefl h2
 have hin1:inB d (B (p+1)) (e p):=⟨l p,sp.lev.1,sp.piv.bas⟩;obtain⟨q,hq1,hq2,hq⟩:∃q,a<=q/\q<b/\B q (l q)=e p:=by
  by_cases hbv:inB d (B b) (e p)
  ·have hav:=(hin _).2 hbv;obtain⟨j,j1,j2,j3⟩:=h.left (p-a) a oM hav (by rw[show a+(p-a)=p by omega];exact hnp);exact⟨j,j1,oM,j3⟩
  ·obtain⟨j,j1,j2,j3⟩:=h.left (b-(p+1)) (p+1) oM hin1 (by rw[show p+1+(b-(p+1))=b by omega];exact hbv);exact⟨j,oM,oM,j3⟩
 have sq:=h.step q oM;have fq:=h.feas q oM;have hsle:e q<=e p:=hmax q hq1 hq2;have hsne:e q≠e p:=λee=>by
  have h1:=fq.inv.lastB sq.lev.1;have h2:=sq.ent.2.1;rw[hq,<-ee]at h1;rw[h1]at h2;exact Rat.lt_irrefl h2
 have hs:0<=T p d.m (e q):=sp.ent.2.2 (e q) oM;have hsq:=sq.ent.2.1;have hk:=sq.ent.1;have h2:=zkN fq.inv fp.inv (s:=e q) oM;obtain⟨ρ,hρ,hpos⟩:=zlO d.m (λt=>T q t (e q)*T p d.m (B q t)) (by grind);have hne:T p d.m (B q ρ)≠0:=λhz=>by rw[hz,Rat.mul_zero]at hpos;exact Rat.lt_irrefl hpos
 have hnb:¬inB d (B p) (B q ρ):=λ⟨t,ht,ev⟩=>hne (by rw[<-ev];exact fp.inv.lastB ht)
 have hle:B q ρ<=e p:=hent q _ oM oM ⟨ρ,hρ,rfl⟩ hnb
 by_cases het:B q ρ=e p
 ·obtain rfl:ρ=l q:=fq.inv.inj hρ sq.lev.1 (by rw[het,hq]);have h3:=sq.lev.2.1;have h4:=sp.ent.2.1;rw[het]at hpos;have h5:0<T q (l q) (e q)*(- T p d.m (e p)):=Rat.mul_pos h3 (by grind)
  grind
 ·have h3:0<=T p d.m (B q ρ):=sp.ent.2.2 _ oM;have h4:0<T q ρ (e q):=by
   refine Rat.not_le.1 λhc=>?_
   have h5:0<=(- T q ρ (e q))*T p d.m (B q ρ):=Rat.mul_nonneg (by grind) h3
   grind
  have hz:T q ρ d.w=0:=by
   by_cases hz:T a ρ d.w=0
   ·have:=h.rhs hb hv hρ (q-a) oM;rw[show a+(q-a)=q by omega]at this;rw[this,hz]
   ·exfalso
    have k1:=h.keeps hb hv hρ hz (q-a) oM;have k2:=h.keeps hb hv hρ hz (p-a) oM;rw[show a+(q-a)=q by omega]at k1;rw[show a+(p-a)=p by omega]at k2;exact hnb ⟨ρ,hρ,by rw[k1,k2]⟩
  have hz2:=h.still hb hv hq1 hq2;rcases sq.lev.2.2 ρ hρ h4 with h5|h5
  ·rw[hz,hz2,Rat.div_def,Rat.div_def,Rat.zero_mul,Rat.zero_mul]at h5;exact Rat.lt_irrefl h5
  ·have:=h5.2;rw[hq]at this;omega
end
def zkG(w:Nat)(B:Nat->Nat):Nat->Nat
 |0=>0
 |m+1=>zkG w B m*w+B m
theorem zj4(w:Nat)(B:Nat->Nat):∀m,(∀t,t<m->B t<w)->zkG w B m<w ^ m
 |0,_=>by simp[zkG]
 |m+1,h=>by
  have h1:=zj4 w B m (λt ht=>h t oM);have h2:=h m oM;have h3:(zkG w B m+1)*w<=w ^ m*w:=Nat.mul_le_mul_right _ h1;rw[zkG,Nat.pow_succ];rw[Nat.add_mul]at h3;omega
theorem zh0(w:Nat)(B D:Nat->Nat):∀m,(∀t,t<m->B t<w)->(∀t,t<m->D t<w)->zkG w B m=zkG w D m->∀t,t<m->B t=D t
 |0,_,_,_,t,ht=>by omega
 |m+1,h1,h2,e,t,ht=>by
  have b1:=h1 m oM;have b2:=h2 m oM;rw[zkG,zkG]at e;have e1:=congrArg (· % w) e;have e2:=congrArg (· / w) e;simp only[Nat.mul_add_mod_self_right,Nat.mod_eq_of_lt b1,Nat.mod_eq_of_lt b2]at e1;have hw:0<w:=oM;have d1:∀x y,y<w->(x*w+y) / w=x:=λx y hy=>by
   rw[Nat.mul_comm,Nat.mul_add_div hw,Nat.div_eq_of_lt hy,Nat.add_zero]
  simp only[d1 _ _ b1,d1 _ _ b2]at e2
  by_cases hm:t=m
  ·rw[hm];exact e1
  ·exact zh0 w B D m (λt ht=>h1 t oM) (λt ht=>h2 t oM) e2 t oM
theorem zlT:∀(M:Nat)(f:Nat->Nat),(∀i,i<=M->f i<M)->∃i j,i<j/\j<=M/\f i=f j
 |0,f,h=>absurd (h 0 nl) oM
 |M+1,f,h=>by
  by_cases hc:∃i,i<M+1/\f i=f (M+1)
  ·obtain⟨i,hi,e⟩:=hc;exact⟨i,M+1,hi,nl,e⟩
  ·-- the value of the last one is taken out
   let g:=λi=>if f i<f (M+1)then f i else f i-1
   have hl:=h (M+1) nl;have hne:∀i,i<=M->f i≠f (M+1):=λi hi e=>hc ⟨i,oM,e⟩
   have hg:∀i,i<=M->g i<M:=λi hi=>by
    have h1:=h i oM;have h2:=hne i hi;simp only[g]
    split<;>omega
   obtain⟨i,j,h1,h2,h3⟩:=zlT M g hg;refine⟨i,j,h1,oM,?_⟩;have e1:=hne i oM;have e2:=hne j h2;simp only[g]at h3
   split at h3<;>split at h3<;>omega
theorem zck.short{d:Dat}{n:Nat}{T:Nat->Nat->Nat->Rat}{B:Nat->Nat->Nat}{e l:Nat->Nat}(h:zck d n T B e l):n<d.w ^ d.m:=by
 refine Nat.lt_of_not_le λhn=>?_
 have hb:∀i,i<=d.w ^ d.m->∀t,t<d.m->B i t<d.w:=λi hi t ht=>(h.feas i oM).inv.bas t ht
 obtain⟨i,j,h1,h2,h3⟩:=zlT (d.w ^ d.m) (λi=>zkG d.w (B i) d.m) (λi hi=>zj4 _ _ _ (hb i hi));exact h.once h1 oM (zh0 d.w (B i) (B j) d.m (hb i oM) (hb j h2) h3)
def top(P:Nat->Prop)[DecidablePred P]:Nat->Nat
 |0=>0
 |k+1=>if P (k+1)then k+1 else top P k
theorem zlN(P:Nat->Prop)[DecidablePred P]:∀k j,j<=k->P j->j<=top P k
 |0,j,hj,_=>by omega
 |k+1,j,hj,h=>by
  unfold top
  split
  ·exact hj
  ·next hk=>
   have:j≠k+1:=λe=>hk (e▸h)
   exact zlN P k j oM h
theorem zlM(P : Nat→Prop)[DecidablePred P](h0 : P 0) : ∀k, P (top P k)
  |0=>h0
  |k+1=>by unfold top;split
           · assumption
           · exact zlM P h0 k
def znt(d:Dat)(D:Nat->Nat)(n:Nat):Prop:=∃(T:Nat->Nat->Nat->Rat)(B:Nat->Nat->Nat)(e l:Nat->Nat),zck d n T B e l/\∀t,t<d.m->B 0 t=D t
open Classical in
noncomputable def left(d:Dat)(D:Nat->Nat):Nat:=top (znt d D) (d.w ^ d.m)
theorem left_step{d:Dat}{T T':Nat->Nat->Rat}{B B':Nat->Nat}{k r:Nat}(h:Feas d T B)(s:Step d T B k r T' B'):left d B'<left d B:=by
 classical
 have h':=s.feas h;have hL0:znt d B' 0:=⟨λ_=>T',λ_=>B',λ_=>0,λ_=>0,⟨λ_ _=>h',λi hi=>by omega⟩,λ_ _=>rfl⟩;have h1:znt d B' (left d B'):=by
  have:=zlM (znt d B') hL0 (d.w ^ d.m);unfold left;exact this
 obtain⟨U,D,e,l,hc,he⟩:=h1;have f0:=hc.feas 0 oM;have same:=h'.inv.same f0.inv (λt ht=>(he t ht).symm);have hs0:Step d T B k r (U 0) (D 0):=by
  refine⟨s.ent,s.lev,?_,?_,?_,?_⟩
  ·intro j hj;rw[<-same r (by have:=s.lev.1;omega) j hj];exact s.piv.row j hj
  ·intro t ht hne j hj;rw[<-same t ht j hj,<-same r (by have:=s.lev.1;omega) j hj];exact s.piv.others t ht hne j hj
  ·rw[he r s.lev.1];exact s.piv.bas
  ·intro t ht hne;rw[he t ht];exact s.piv.basO t ht hne
 have hlong:znt d B (left d B'+1):=by
  refine⟨λi=>match i with|0=>T|i+1=>U i,λi=>match i with|0=>B|i+1=>D i,λi=>match i with|0=>k|i+1=>e i,λi=>match i with|0=>r|i+1=>l i,⟨?_,?_⟩,λ_ _=>rfl⟩
  ·intro i hi
   match i with
   |0=>exact h
   |i+1=>exact hc.feas i oM
  ·intro i hi
   match i with
   |0=>exact hs0
   |i+1=>exact hc.step i oM
 obtain⟨T2,B2,e2,l2,hc2,_⟩:=id hlong;have hlt:=hc2.short;have:=zlN (znt d B) (d.w ^ d.m) (left d B'+1) oM hlong;have e3:left d B=top (znt d B) (d.w ^ d.m):=by unfold left;congr
 omega
end Sx
namespace Go.Proofs.YtfgffkmddanjjaaGreatDoor
open _root_.Go.Proofs.Tryz
open Go.RowKit
theorem zf1(r:Rat):zgW (some r)=true↔r<0:=by
 show decide (r.num<0)=true↔_
 rw[decide_eq_true_iff];exact zmx.symm
theorem zjV(L:Nat->Nat->Rat)(m q:Nat){z:Int}(h:zhS zgW (zbt L m q)=z):(z=-1/\∀j,j<q->0<=L m j)\/∃k:Nat,z=(k:Int)/\k<q/\L m k<0/\∀j,j<k->0<=L m j:=by
 unfold zhS at h;have key:∀j,zgW (some (L m j))=false->0<=L m j:=λj hj=>Rat.not_lt.1 λhn=>by
  rw[(zf1 _).2 hn]at hj;cases hj
 cases hf:(zbt L m q).findIdx? zgW with
 |none=>
  rw[hf]at h;refine .inl ⟨h.symm,λj hj=>key j ?_⟩;rw[List.findIdx?_eq_none_iff]at hf;exact hf _ (List.mem_of_getElem? (zbA hj))
 |some k=>
  rw[hf]at h;rw[List.findIdx?_eq_some_iff_getElem]at hf;obtain⟨hk,h1,h2⟩:=hf;rw[zap]at hk;have e:∀j (hj:j<(zbt L m q).length),(zbt L m q)[j]=some (L m j):=λj hj=>by
   have:=zbA (L:=L) (i:=m) (k:=q) (j:=j) (by rw[zap]at hj;exact hj);rw[gE hj]at this;exact Option.some.inj this
  refine .inr ⟨k,h.symm,hk,(zf1 _).1 (by rw[<-e k (by rw[zap];exact hk)];exact h1),λj hj=>key j ?_⟩;have:=h2 j hj;rw[e]at this
  simpa using this
def zpd(d:Sx.Dat)(m q:Nat)(z:Int)(L:Nat->Nat->Rat)(bs:Nat->Nat):Prop :=
 Sx.Feas d L bs/\((z=-1/\∀j,j<q->0<=L m j)\/∃k:Nat,z=(k:Int)/\k<q/\L m k<0/\∀t,t<m->L t k<=0)
structure SzD(d:Sx.Dat)(m n q:Nat):Prop where
 hm:d.m=m
 hn:d.n=n
 hw:d.w=q
 sz:∀L bs,Sx.Feas d L bs->∀i,i<=m->∀j,j<q+1->Kb 1 (L i j)
theorem zmk{d:Sx.Dat}{m n q k r:Nat}{L M:Nat->Nat->Rat}{bs cs:Nat->Nat}(hd:SzD d m n q)(hk:k<q)(h1:L m k<0)(h2:∀j,j<k->0<=L m j)(hr:r<m)(hp:0<L r k)
  (hl:∀t,t<m->0<L t k->L r q / L r k<L t q / L t k\/(L r q / L r k=L t q / L t k/\bs r<=bs t))(hv:zoT m q r k L bs M cs):Sx.Step d L bs k r M cs:=by
 obtain⟨rfl,rfl,rfl,_⟩:=hd;obtain⟨h3,h4,rfl⟩:=hv;exact⟨⟨hk,h1,h2⟩,⟨hr,hp,hl⟩,⟨λj hj=>h3 j oM,λt ht hne j hj=>h4 t ht hne j oM,if_pos rfl,λt _ hne=>if_neg hne⟩⟩
theorem znV{B g ga ca gb cb m n q:Nat}{rr cr:Nat->Nat}{L:Nat->Nat->Rat}{bs:Nat->Nat}(d:Sx.Dat)(hd:Hid (SzD d m n q))(w:Wo)(h:TB w B g ga ca gb cb m n q rr cr L bs)(hF:Hid (Sx.Feas d L bs)) :
  CP 116 #[pT g 0] w λe w'=>(∃(z:Int)(M:Nat->Nat->Rat)(cs:Nat->Nat),e=.returned (.tuple #[.int .i64 z,.int .i64 0])/\Hid (zpd d m q z M cs)/\TB w' B g ga ca gb cb m n q rr cr M cs)/\Below B w w':=by
 have hbw:=Below.refl B w;obtain⟨gn,hgn⟩:∃gn,gn=Sx.left d bs:=⟨_,rfl⟩;have Hgn:=hii hgn;clear hgn;go_enter func116,ntmps116;go_wp2_with fail;go_loopg [] gn (λgg wr=>∃(L:Nat->Nat->Rat)(bs:Nat->Nat),Hid (gg=Sx.left d bs)/\Hid (Sx.Feas d L bs)/\TB wr B g ga ca gb cb m n q rr cr L bs/\Below B w wr)
 case atStart=>exact⟨L,bs,Hgn,hF,h,hbw⟩
 case round=>
  clear h hF hbw Hgn;obtain⟨L,bs,Hgg,HF,h,hbw⟩:=hrel;have HS:=hii (hd.o.sz L bs HF.o);obtain⟨z,hz⟩:∃z,zhS zgW (zbt L m q)=z:=⟨_,rfl⟩;have HE:=hii (zg3 wr h);rw[hz]at HE;have HZ:=hii (zjV L m q hz);clear hz;go_wp2_with fail;go_fit (HE.o);rintro e w2⟨rfl,hb⟩;have hbw:=Below.step' hbw hb h.size;have h:=h.mono hb;clear hb HE;rcases HZ.o with⟨rfl,hz⟩|⟨k,rfl,hk,h1,h2⟩
  ·have HR:Hid (zpd d m q (-1) L bs):=hii ⟨HF.o,.inl ⟨rfl,hz⟩⟩;clear hz HZ;go_wp2;go_ret2;exact⟨⟨-1,L,bs,rfl,HR,h⟩,hbw⟩
  ·have H1:=hii h1;have H2:=hii h2;have gk:decide ((k:Int)<0)=false:=decide_eq_false oM;clear h1 h2 HZ;go_wp2_with fail;go_fit (ziz k w2 h hk HS);rintro e w3⟨⟨z2,rfl,HZ2⟩,hb⟩;have hbw:=Below.step' hbw hb h.size;have h:=h.mono hb;clear hb;obtain⟨x0,x1,x2,x3,x4⟩:=h.box.n5;rcases HZ2.o with⟨rfl,hno⟩|⟨r,rfl,hr,hp,hl⟩
   ·have HR:Hid (zpd d m q (k:Int) L bs):=hii ⟨HF.o,.inr ⟨k,rfl,hk,H1.o,λt ht=>Rat.not_lt.1 (hno t ht)⟩⟩;clear hno HZ2;go_wp2;go_ret2;exact⟨⟨k,L,bs,rfl,HR,h⟩,hbw⟩
   ·have Hp:=hii hp;have Hl:=hii hl;have Hne:Hid ((L r k).num≠0):=hii (by have:=ze3.1 hp;omega);have gr:decide ((r:Int)<0)=false:=decide_eq_false oM;clear hp hl HZ2;go_wp2_with fail;go_fit (zk9 r k w3 h hr hk HS Hne);rintro e w4⟨⟨rfl,M,cs,hP,h4⟩,hb⟩;have hbw:=hbw.trans hb;have HST:=hii (zmk hd.o hk H1.o H2.o hr Hp.o Hl.o hP);clear hb hP x0 x1 x2 x3 x4 h;have h:=h4;clear h4;obtain⟨x0,x1,x2,x3,x4⟩:=h.box.n5;go_wp2;go_roundg (Sx.left d cs)
    case measure=>rw[Hgg.o];exact Sx.left_step HF.o HST.o
    case rel=>exact⟨M,cs,hii rfl,hii (HST.o.feas HF.o),h,hbw⟩
end Go.Proofs.YtfgffkmddanjjaaGreatDoor
