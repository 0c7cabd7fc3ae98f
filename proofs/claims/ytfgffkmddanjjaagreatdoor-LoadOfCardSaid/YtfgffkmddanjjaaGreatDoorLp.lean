/-
  The reference of chapter 13: sums of products, comparisons, a column.
-/
import Derived.Test.YtfgffkmddanjjaaGreatDoorSj
import Derived.Test.YtfgffkmddanjjaaGreatDoorFlowX
import Derived.Test.YtfgffkmddanjjaaGreatDoorSh
import Derived.Test.YtfgffkmddanjjaaGreatDoorSxA
set_option linter.unusedVariables false
set_option linter.unusedSimpArgs false
namespace Go.Proofs.YtfgffkmddanjjaaGreatDoor
open Go.RowKit
def zo7(A:List (List Rat))(b x:List Rat):Bool:=x.all (λr=>!zmI r) && (List.range A.length).all λi=>decide (Du.dotR (A.getD i []) x<=b.getD i 0)
def zpn(w:Wo)(l:List Rat)(v:Vl):Prop:=∃ao cap,v=.slice ao l.length cap/\UQ w ao (l.map some)
theorem zpn.mono{w w':Wo}{l:List Rat}{v:Vl}(h:zpn w l v)(hb:BH w w'):zpn w' l v:=by
 obtain⟨ao,cap,e,hU⟩:=h;exact⟨ao,cap,e,hU.mono hb⟩
def UJ(w:Wo)(ao:OA)(l:List (Int×Int)):Prop:=∀(k:Nat)(p:Int×Int),l[k]?=some p->∃b off J1 ao1 n1 Y1 nh1 ap1 m1 Z1,ao=sD b off/\zft w b (off+k*4) (.bool J1) (.slice ao1 n1 Y1) (.bool nh1) (.slice ap1 m1 Z1)/\zai w (.agg #[.bool J1,.slice ao1 n1 Y1]) p.1/\zai w (.agg #[.bool nh1,.slice ap1 m1 Z1]) p.2
theorem UJ.mono{w w':Wo}{ao:OA}{l:List (Int×Int)}(h:UJ w ao l)(hb:BH w w'):UJ w' ao l:=by
 intro k p hk;obtain⟨b,off,J1,ao1,n1,Y1,nh1,ap1,m1,Z1,e,F,h1,h2⟩:=h k p hk;exact⟨b,off,J1,ao1,n1,Y1,nh1,ap1,m1,Z1,e,F.mono hb,h1.mono hb,h2.mono hb⟩
def Iz(w:Wo)(ao:OA)(l:List Int):Prop:=∀(k:Nat)(z:Int),l[k]?=some z->∃b off,ao=sD b off/\w.cell? ⟨b,off+k,none⟩=some (.int .i64 z)
theorem Iz.mono{w w':Wo}{ao:OA}{l:List Int}(h:Iz w ao l)(hb:BH w w'):Iz w' ao l:=λk z hk=>by
 obtain⟨b,off,e,hc⟩:=h k z hk;exact eG
structure OW(W:Wo)(B0 B g:Nat)(vA vB vC:Vl)(ow:List (Vl×List Qo))(b C:List Qo):Prop where
 t:TG W B g vA nS_ [] ow
 r:Row W g 105 [vA,vB,vC]
 oB:zaI W B0 vB b
 oC:zaI W B0 vC C
 lB:∀k,vB.ownBlock=some k->k<B/\k≠g
 lC:∀k,vC.ownBlock=some k->k<B/\k≠g
 sep:Sep vB vC
 gl:g<B
 sz:B<=W.heap.size
theorem OW.mono{W W':Wo}{B0 B g:Nat}{vA vB vC:Vl}{ow:List (Vl×List Qo)}{b C:List Qo}(h:OW W B0 B g vA vB vC ow b C)(hb:BH W W'):OW W' B0 B g vA vB vC ow b C :=
 ⟨h.t.mono hb,h.r.below hb,h.oB.mono hb,h.oC.mono hb,h.lB,h.lC,h.sep,h.gl,Nat.le_trans h.sz hb.size⟩
def szM(K m:Nat):Nat:=m*(Sx.dz K m*K)+(Sx.dz K m*K+Sx.dz K m)
def szE(K m:Nat):Nat:=m*szM K m+szM K m
structure WP(A:List (List Rat))(b C:List Rat)(m n K:Nat):Prop where
 lA:A.length=m
 rA:∀r∈A,r.length=n
 lb:b.length=m
 lC:C.length=n
 wA:∀r∈A,∀x∈r,Sx.Wh x K
 wb:∀x∈b,Sx.Wh x K
 wC:∀x∈C,Sx.Wh x K
 hK:1<=K/\K<=KK
 hm:1<=m/\m<=8
 hn:1<=n/\n<=8
 pb:∀x∈b,0<=x
 big:8*(K*szE K m)<=KK
section
variable {A : List (List Rat)} {b C : List Rat} {m n K : Nat}
theorem WP.den(W:WP A b C m n K){L:Nat->Nat->Rat}{bs:Nat->Nat}(hF:Sx.Feas (zbg A b C m n) L bs) :
  ∃D:Int,D≠0/\D.natAbs<=Sx.dz K m/\∀i,i<=m->∀j,j<=n+m->Sx.Wh (L i j*(D:Rat)) (szM K m):=by
 have hcol:∀j,j<=(zbg A b C m n).w->∀i,i<(zbg A b C m n).m->Sx.Wh ((zbg A b C m n).col j i) K:=λj _ i _=>by
  unfold Sx.Dat.col zbg
  show Sx.Wh (if j<n then _ else if j<n+m then _ else _) K
  split
  ·show Sx.Wh ((A.getD i []).getD j 0) K
   rw[List.getD_eq_getElem?_getD (l:=A)]
   cases ha:A[i]? with
   |none=>exact zdW (l:=[]) (λx h=>by simp at h) j
   |some r=>exact zdW (W.wA r (List.mem_of_getElem? ha)) j
  ·split
   ·show Sx.Wh (if i=j-n then 1 else 0) K
    split
    ·exact zei.mono W.hK.1
    ·exact Sx.wh_zero.mono (Nat.zero_le _)
   ·exact zdW W.wb i
 have hcst:∀j,j<=(zbg A b C m n).w->Sx.Wh ((zbg A b C m n).cost j) K:=λj _=>by
  unfold Sx.Dat.cost zbg
  show Sx.Wh (if j<n then _ else _) K
  split
  ·exact zdW W.wC j
  ·exact Sx.wh_zero.mono (Nat.zero_le _)
 exact hF.inv.size hcol hcst
theorem znL{D:Int}{M:Nat}{f:Nat->Rat}{bs:Nat->Nat}{v:Nat}(h:∀t,t<m->Sx.Wh (f t*(D:Rat)) M):Sx.Wh (Du.sm m (λt=>if bs t=v then f t else 0)*(D:Rat)) (m*M):=by
 rw[<-Sx.sm_mulr];refine Sx.wh_sm M m _ λt ht=>?_
 split
 ·exact h t ht
 ·rw[Rat.zero_mul];exact Sx.wh_zero.mono (Nat.zero_le _)
theorem zbQ{x:Rat}{K:Nat}(h:Sx.Wh x K)(hK:K<=KK):Kb 1 x:=by
 have:=zme (D:=1) (M:=1) dM (by simpa using h) dM;unfold Kb;rw[Nat.pow_one];exact⟨Nat.le_trans this.1 hK,Nat.le_trans this.2 (Nat.le_of_lt zhO)⟩
theorem zcs{x:Rat}{D:Int}{N:Nat}(hD:D≠0)(hDz:D.natAbs<=KK)(h:Sx.Wh (x*(D:Rat)) N)(hN:N<=KK):Kb 1 x:=by
 have:=zme hD h hDz;unfold Kb;rw[Nat.pow_one];exact⟨Nat.le_trans this.1 hN,this.2⟩
theorem Kb.addS{i j:Nat}{a b:Rat}(h:Kb i a)(g:Kb j b)(hij:i+j+1<12):zcI a b:=by
 refine⟨h.crS g oM,zed hij ?_,zed (n:=i+j) oM (by rw[<-zbK];exact Rq.bd_dd h g)⟩;have h1:=Rq.bd_x h g;have h2:=Rq.bd_x g h;rw[zbK]at h1 h2;have:=zl2 (i+j);rw[Nat.add_comm j i]at h2;omega
theorem zfb{f:Nat->Rat}{n:Nat}{p:Rat->Prop}(h:∀k,k<n->p (f k)):∀r∈(List.range n).map f,p r:=by
 intro r hr;obtain⟨k,hk,rfl⟩:=List.mem_map.1 hr;exact h k (List.mem_range.1 hk)
theorem ze2(f:Nat->Rat){n k:Nat}(h:k<n):((List.range n).map f).getD k 0=f k:=by
 rw[List.getD_eq_getElem?_getD,List.getElem?_map,List.getElem?_range h];rfl
theorem zdU{α:Type}{l:List α}{k:Nat}{x:α}(h:l[k]?=some x):k<l.length:=by
 rcases Nat.lt_or_ge k l.length with h2|h2
 ·exact h2
 ·rw[List.getElem?_eq_none h2]at h;cases h
structure OptL(A:List (List Rat))(b C:List Rat)(m n:Nat)(val:Rat)(X Y:List Rat):Prop where
 lX:X.length=n
 lY:Y.length=m
 pY:∀r∈Y,zmI r=false
 col:∀(k:Nat)(c:Rat),C[k]?=some c->∃s,ziS 0 (zpQ A k) Y (some s)/\CrS s c/\c<=s
 row:∀(k:Nat)(a:List Rat)(bi:Rat),A[k]?=some a->b[k]?=some bi->∃s,ziS 0 a X (some s)/\CrS s bi
 fit:zo7 A b X=true
 v1:∃s,ziS 0 C X (some s)/\CrS s val/\s=val
 v2:∃s,ziS 0 b Y (some s)/\CrS s val/\s=val
structure RayL(A:List (List Rat))(C:List Rat)(n:Nat)(X:List Rat):Prop where
 lX:X.length=n
 pX:∀r∈X,zmI r=false
 row:∀a∈A,∃s,ziS 0 a X (some s)/\s.num<=0
 val:∃s,ziS 0 C X (some s)/\0<s.num
end
theorem zoP{n:Nat}(h:n<=1000000):Lib.nDigits n<=20:=by
 by_cases h0:n=0
 ·rw[h0,Lib.nDigits_small dM];decide
 ·exact(Bi.nd_le h0).2 oM
theorem zht{x:Rat}{K:Nat}(h:Sx.Wh x K)(hK:K<=1000000):zcc x=true:=by
 obtain⟨z,rfl,hz⟩:=h;unfold zcc;rw[Rat.num_intCast,Rat.den_intCast,Lib.decDigits_length,Lib.decDigits_length];have h1:Lib.nDigits z.natAbs<=20:=zoP oM;have h2:Lib.nDigits 1<=20:=zoP oM;simp[h1,h2]
section
variable {A : List (List Rat)} {b C : List Rat} {m n K : Nat}
theorem WP.err(W:WP A b C m n K)(hK:K<=1000000):Prg.err ⟨A.map (·.map some),b.map some,C.map some⟩=0:=by
 have hm:=W.hm;have hn:=W.hn;have hsome:∀x∈Prg.all ⟨A.map (·.map some),b.map some,C.map some⟩,∃r,x=some r/\Sx.Wh r K:=by
  intro x hx;unfold Prg.all at hx;simp only[List.mem_append,List.mem_flatten,List.mem_map]at hx;rcases hx with(⟨l,⟨a,ha,rfl⟩,hx⟩|⟨r,hr,rfl⟩)|⟨r,hr,rfl⟩
  ·obtain⟨r,hr,rfl⟩:=List.mem_map.1 hx;exact⟨r,rfl,W.wA a ha r hr⟩
  ·exact⟨r,rfl,W.wb r hr⟩
  ·exact⟨r,rfl,W.wC r hr⟩
 have hnum:zbb (Prg.all ⟨A.map (·.map some),b.map some,C.map some⟩)=0:=by
  refine zf0 (λx hx=>?_) λx hx=>?_
  ·obtain⟨r,rfl,_⟩:=hsome x hx;rfl
  ·obtain⟨r,rfl,hr⟩:=hsome x hx;simp[zgY,zht hr hK]
 unfold Prg.err;rw[if_neg (by simp only[List.length_map,W.lA,W.lb,W.lC];omega),if_neg (by
  rw[Bool.not_eq_true,List.any_eq_false];intro r hr;obtain⟨a,ha,rfl⟩:=List.mem_map.1 hr;simp[W.rA a ha,W.lC]),if_neg (by rw[hnum];simp),if_neg]
 rw[Bool.not_eq_true];unfold znF;rw[List.any_eq_false];intro x hx;obtain⟨r,hr,rfl⟩:=List.mem_map.1 hx;have:=Rat.num_nonneg.2 (W.pb r hr);simp only[zgW,decide_eq_true_eq];omega
theorem zi1{Z:List Rat}{y:Nat->Rat}(g:zoR A b C m n Z)(hp:Du.Pri m n (zbg A b C m n).A (zbg A b C m n).C y):False:=by
 obtain⟨M,cs,k,gF,hk,hn,hc,_⟩:=g;refine Du.ray_none (m:=m) (n:=n) (A:=(zbg A b C m n).A) (c:=(zbg A b C m n).C) (x:=Sx.rayv (zbg A b C m n) M cs k) (y:=y) (λk' _=>Sx.ray_nonneg hc k') (λi hi=>?_) ?_ hp
 ·have h1:=Sx.ray_row gF.inv hk hi;have h2:=Sx.ray_nonneg (d:=zbg A b C m n) (B:=cs) (k:=k) (T:=M) hc ((zbg A b C m n).n+i);have h3:Du.sm n (λk_1=>(zbg A b C m n).A i k_1*Sx.rayv (zbg A b C m n) M cs k k_1)+Sx.rayv (zbg A b C m n) M cs k ((zbg A b C m n).n+i)=0:=h1
  grind
 ·have h1:=Sx.ray_val gF.inv hk;have h3:Du.sm n (λv=>(zbg A b C m n).C v*Sx.rayv (zbg A b C m n) M cs k v)=- M m k:=h1;rw[h3]
  grind
end
def zoF(d:Sx.Dat)(v:Rat):Prop:=(∃x,Du.Sol d.m d.n d.A d.b x/\Du.sm d.n (λk=>d.C k*x k)=v)/\∃y,Du.Pri d.m d.n d.A d.C y/\Du.sm d.m (λi=>d.b i*y i)=v
structure RayD(d:Sx.Dat)(x:Nat->Rat):Prop where
 pos:∀k,k<d.n->0<=x k
 row:∀i,i<d.m->Du.sm d.n (λk=>d.A i k*x k)<=0
 val:0<Du.sm d.n (λk=>d.C k*x k)
structure zpD(d e:Sx.Dat)(f:Rat)(φ:(Nat->Rat)->Nat->Rat):Prop where
 f0:0<f
 pos:∀x,(∀k,k<d.n->0<=x k)->∀k,k<e.n->0<=φ x k
 sol:∀x,(∀i,i<d.m->Du.sm d.n (λk=>d.A i k*x k)<=d.b i)->∀i,i<e.m->Du.sm e.n (λk=>e.A i k*φ x k)<=e.b i
 ray:∀x,(∀i,i<d.m->Du.sm d.n (λk=>d.A i k*x k)<=0)->∀i,i<e.m->Du.sm e.n (λk=>e.A i k*φ x k)<=0
 val:∀x,Du.sm e.n (λk=>e.C k*φ x k)=f*Du.sm d.n (λk=>d.C k*x k)
section
variable {d e : Sx.Dat} {f g u v : Rat} {φ ψ : (Nat → Rat) → Nat → Rat}
theorem zpD.le(h:zpD d e f φ)(hd:zoF d v)(he:zoF e u):f*v<=u:=by
 obtain⟨⟨x,hx,hv⟩,_⟩:=hd;obtain⟨_,y,hy,hu⟩:=he;have:=Du.weak ⟨h.pos x hx.pos,h.sol x hx.row⟩ hy;rw[h.val,hv,hu]at this
 grind
end
end Go.Proofs.YtfgffkmddanjjaaGreatDoor
namespace Sx
open Du
theorem zge(p:Rat):∀(n:Nat)(A:Nat->Nat->Rat),det n (λr c=>A r c*p)=det n A*p ^ n
 |0,A=>by simp[det]
 |n+1,A=>by
  have e:∀i,rem (λr c=>A r c*p) i=λr c=>rem A i r c*p:=λi=>rfl
  simp only[det];rw[<-sm_mulr];refine sm_congr _ _ _ λi _=>?_
  rw[e,zge p n,Rat.pow_succ]
  grind
theorem zjl{p:Rat}(hp:p≠0):∀n:Nat,p ^ n≠0
 |0=>by simp
 |n+1=>by
  rw[Rat.pow_succ];intro h;rcases Rat.mul_eq_zero.1 h with h|h
  ·exact zjl hp n h
  ·exact hp h
variable {d : Dat} {T : Nat → Nat → Rat} {B : Nat → Nat}
theorem Dat.Inv.sizeS(h:d.Inv T B){K p:Nat}(hp:1<=p)(hK:∀j,j<=d.w->∀i,i<d.m->Wh (d.col j i*(p:Rat)) K)(hC:∀j,j<=d.w->Wh (d.cost j) K) :
  ∃D:Int,D≠0/\D.natAbs<=dz K d.m/\∀t,t<=d.m->∀j,j<=d.w->Wh (T t j*(D:Rat)) (d.m*(dz K d.m*K)+(dz K d.m*K+dz K d.m)):=by
 have hp0:(p:Rat)≠0:=λe=>by have:=congrArg Rat.num e;simp at this;omega
 have hP:∀r c,r<d.m->c<d.m->Wh (d.col (B r) c*(p:Rat)) K:=λr c hr hc=>hK _ (by have:=h.bas r hr;omega) c hc
 obtain⟨D,hD,hDz⟩:=zfB K d.m (λt i=>d.col (B t) i*(p:Rat)) hP;have hcomb:∀j,j<=d.w->∀i,i<d.m->sm d.m (λt=>T t j*(d.col (B t) i*(p:Rat)))=d.col j i*(p:Rat):=λj hj i hi=>by
  rw[h.comb j hj i hi,<-sm_mulr];exact sm_congr _ _ _ λt _=>by grind
 have h0:∀t,t<d.m->∀j,j<=d.w->Wh (T t j*(D:Rat)) (dz K d.m):=λt ht j hj=>by
  have h1:=zgh d.m (λt i=>d.col (B t) i*(p:Rat)) (λt=>T t j) (λi=>d.col j i*(p:Rat)) (λi hi=>hcomb j hj i hi) t ht;rw[<-hD,<-h1];refine zfB K d.m _ λr c hr hc=>?_
  unfold zaA
  by_cases e:r=t
  ·rw[if_pos e];exact hK j hj c hc
  ·rw[if_neg e];exact hP r c hr hc
 refine⟨D,λe=>?_,hDz,λt ht j hj=>?_⟩
 ·have h2:=zge (p:Rat) d.m (λt i=>d.col (B t) i);rw[hD,e]at h2;rcases Rat.mul_eq_zero.1 h2.symm with h3|h3
  ·exact h.det h3
  ·exact zjl hp0 _ h3
 by_cases hm:t<d.m
 ·exact(h0 t hm j hj).mono oM
 ·obtain rfl:t=d.m:=oM;have e:T d.m j*(D:Rat)=sm d.m (λt=>T t j*(D:Rat)*d.cost (B t))+ -(d.cost j*(D:Rat)):=by
   rw[h.last j hj,sm_congr d.m (λt=>T t j*(D:Rat)*d.cost (B t)) (λt=>(D:Rat)*(T t j*d.cost (B t))) λt _=>by grind,zb2];grind
  rw[e];have w1:=wh_sm (dz K d.m*K) d.m (λt=>T t j*(D:Rat)*d.cost (B t)) λt ht=>(h0 t ht j hj).mul (hC _ (by have:=h.bas t ht;omega))
  have w2:Wh (d.cost j*(D:Rat)) (K*dz K d.m):=(hC j hj).mul ⟨D,rfl,hDz⟩;exact(w1.add w2.neg).mono (by rw[Nat.mul_comm K];omega)
end Sx
namespace Go.Proofs.YtfgffkmddanjjaaGreatDoor
open Go.RowKit
structure WQ(A:List (List Rat))(b C:List Rat)(m n p K:Nat):Prop where
 lA:A.length=m
 rA:∀r∈A,r.length=n
 lb:b.length=m
 lC:C.length=n
 wA:∀r∈A,∀x∈r,Sx.Wh (x*(p:Rat)) K
 wb:∀x∈b,Sx.Wh (x*(p:Rat)) K
 wC:∀x∈C,Sx.Wh x K
 hp:1<=p/\p<=K
 hK:K<=1000000
 hm:1<=m/\m<=8
 hn:1<=n/\n<=40
 pb:∀x∈b,0<=x
 big:100*(K*(K*szE K m))<=KK
section
variable {A : List (List Rat)} {b C : List Rat} {m n p K : Nat}
theorem WQ.K1(W:WQ A b C m n p K):1<=K:=Nat.le_trans W.hp.1 W.hp.2
theorem WQ.bigE(W:WQ A b C m n p K):szE K m<=KK:=by
 have h1:szE K m<=K*szE K m:=Nat.le_mul_of_pos_left _ W.K1;have h2:K*szE K m<=K*(K*szE K m):=Nat.le_mul_of_pos_left _ W.K1;have:=W.big;omega
theorem WQ.bigM(W:WQ A b C m n p K):szM K m<=KK:=by
 have:=W.bigE;unfold szE at this;omega
theorem zfi{l:List Rat}(h:∀x∈l,Sx.Wh (x*(p:Rat)) K)(i:Nat):Sx.Wh (l.getD i 0*(p:Rat)) K:=by
 rw[List.getD_eq_getElem?_getD]
 cases hl:l[i]? with
 |none=>show Sx.Wh (0*(p:Rat)) K;rw[Rat.zero_mul];exact Sx.wh_zero.mono (Nat.zero_le _)
 |some x=>exact h x (List.mem_of_getElem? hl)
theorem zfa(q:Nat):((q:Nat):Rat)=(((q:Nat):Int):Rat):=rfl
theorem zlL{q:Nat}(h:q<=K):Sx.Wh (q:Rat) K:=⟨(q:Int),zfa q,by simpa using h⟩
theorem WQ.den(W:WQ A b C m n p K){L:Nat->Nat->Rat}{bs:Nat->Nat}(hF:Sx.Feas (zbg A b C m n) L bs) :
  ∃D:Int,D≠0/\D.natAbs<=Sx.dz K m/\∀i,i<=m->∀j,j<=n+m->Sx.Wh (L i j*(D:Rat)) (szM K m):=by
 have hcol:∀j,j<=(zbg A b C m n).w->∀i,i<(zbg A b C m n).m->Sx.Wh ((zbg A b C m n).col j i*(p:Rat)) K:=λj _ i _=>by
  unfold Sx.Dat.col zbg
  show Sx.Wh ((if j<n then _ else if j<n+m then _ else _)*(p:Rat)) K
  split
  ·show Sx.Wh ((A.getD i []).getD j 0*(p:Rat)) K
   rw[List.getD_eq_getElem?_getD (l:=A)]
   cases ha:A[i]? with
   |none=>exact zfi (l:=[]) (λx h=>by simp at h) j
   |some r=>exact zfi (W.wA r (List.mem_of_getElem? ha)) j
  ·split
   ·show Sx.Wh ((if i=j-n then 1 else 0)*(p:Rat)) K
    split
    ·rw[Rat.one_mul];exact zlL W.hp.2
    ·rw[Rat.zero_mul];exact Sx.wh_zero.mono (Nat.zero_le _)
   ·exact zfi W.wb i
 have hcst:∀j,j<=(zbg A b C m n).w->Sx.Wh ((zbg A b C m n).cost j) K:=λj _=>by
  unfold Sx.Dat.cost zbg
  show Sx.Wh (if j<n then _ else _) K
  split
  ·exact zdW W.wC j
  ·exact Sx.wh_zero.mono (Nat.zero_le _)
 exact hF.inv.sizeS W.hp.1 hcol hcst
theorem WQ.sz(W:WQ A b C m n p K):SzD (zbg A b C m n) m n (n+m):=by
 refine⟨rfl,rfl,rfl,λL bs hF i hi j hj=>?_⟩;obtain⟨D,hD,hDz,hsz⟩:=W.den hF;have hb:=W.bigM;have hd:D.natAbs<=KK:=by unfold szM at hb;omega
 exact zcs hD hd (hsz i hi j oM) hb
theorem zfK{x:Rat}(hp:1<=p)(hpK:p<=K)(h:Sx.Wh (x*(p:Rat)) K)(hK:K<=1000000):zcc x=true:=by
 have h1:=zme (x:=x) (D:=(p:Int)) (N:=K) (M:=p) oM (by rw[<-zfa];exact h) sM;unfold zcc;rw[Lib.decDigits_length,Lib.decDigits_length];have h2:Lib.nDigits x.num.natAbs<=20:=zoP (by have:=h1.1;omega);have h3:Lib.nDigits x.den<=20:=zoP (by have:=h1.2;omega);simp[h2,h3]
theorem WQ.err(W:WQ A b C m n p K):Prg.err ⟨A.map (·.map some),b.map some,C.map some⟩=0:=by
 have hm:=W.hm;have hn:=W.hn;have hsome:∀x∈Prg.all ⟨A.map (·.map some),b.map some,C.map some⟩,∃r,x=some r/\zcc r=true:=by
  intro x hx;unfold Prg.all at hx;simp only[List.mem_append,List.mem_flatten,List.mem_map]at hx;rcases hx with(⟨l,⟨a,ha,rfl⟩,hx⟩|⟨r,hr,rfl⟩)|⟨r,hr,rfl⟩
  ·obtain⟨r,hr,rfl⟩:=List.mem_map.1 hx;exact⟨r,rfl,zfK W.hp.1 W.hp.2 (W.wA a ha r hr) W.hK⟩
  ·exact⟨r,rfl,zfK W.hp.1 W.hp.2 (W.wb r hr) W.hK⟩
  ·exact⟨r,rfl,zht (W.wC r hr) W.hK⟩
 have hnum:zbb (Prg.all ⟨A.map (·.map some),b.map some,C.map some⟩)=0:=by
  refine zf0 (λx hx=>?_) λx hx=>?_
  ·obtain⟨r,rfl,_⟩:=hsome x hx;rfl
  ·obtain⟨r,rfl,hr⟩:=hsome x hx;simp[zgY,hr]
 unfold Prg.err;rw[if_neg (by simp only[List.length_map,W.lA,W.lb,W.lC];omega),if_neg (by
  rw[Bool.not_eq_true,List.any_eq_false];intro r hr;obtain⟨a,ha,rfl⟩:=List.mem_map.1 hr;simp[W.rA a ha,W.lC]),if_neg (by rw[hnum];simp),if_neg]
 rw[Bool.not_eq_true];unfold znF;rw[List.any_eq_false];intro x hx;obtain⟨r,hr,rfl⟩:=List.mem_map.1 hx;have:=Rat.num_nonneg.2 (W.pb r hr);simp only[zgW,decide_eq_true_eq];omega
end
def wt(f:Rat)(q:Nat×Nat)(i:Nat):Rat:=if q.1.testBit i=true then(if q.2.testBit i=true then 1 else f)else if q.2.testBit i=true then 1-f else 0
def prs(R S:LN):List (Nat×Nat):=R.flatMap λr=>S.map λs=>(r,s)
def wA(f:Rat)(l:List (Nat×Nat))(m:Nat):List (List Rat):=(List.range m).map λi=>l.map λq=>wt f q i
structure Wk(l:List (Nat×Nat))(f:Rat)(cap:List Rat)(m n p K:Nat):Prop where
 lc:cap.length=m
 ln:l.length=n
 ne:∀q∈l,(∃i,i<m/\q.1.testBit i=true)/\∃i,i<m/\q.2.testBit i=true
 f0:0<=f
 f1:f<=1
 wf:Sx.Wh (f*(p:Rat)) K
 wc:∀c∈cap,Sx.Wh (c*(p:Rat)) K
 pc:∀c∈cap,0<c
 hp:1<=p/\p<=K
 hK:K<=1000000
 hm:1<=m/\m<=8
 hn:1<=n/\n<=40
 big:100*(K*(K*szE K m))<=KK
section
variable {l : List (Nat × Nat)} {f : Rat} {cap : List Rat} {m n p K : Nat}
theorem Wk.wrest(W:Wk l f cap m n p K):Sx.Wh ((1-f)*(p:Rat)) K:=by
 obtain⟨z,hz,_⟩:=W.wf;have hp0:(0:Rat)<=(p:Rat):=by exact_mod_cast Nat.zero_le p
 have e:(1-f)*(p:Rat)=(((p:Int)-z:Int):Rat):=by
  rw[Rat.intCast_sub,<-hz,<-zfa];grind
 have h1:(0:Rat)<=(z:Rat):=by rw[<-hz];exact Rat.mul_nonneg W.f0 hp0
 have h2:(z:Rat)<=((p:Int):Rat):=by
  rw[<-hz];have:=Rat.mul_le_mul_of_nonneg_right W.f1 hp0;rw[Rat.one_mul]at this;rw[<-zfa];exact this
 have h3:0<=z:=by exact_mod_cast h1
 have h4:z<=(p:Int):=by exact_mod_cast h2
 refine⟨(p:Int)-z,e,?_⟩;have:=W.hp.2;omega
theorem Wk.wwt(W:Wk l f cap m n p K)(q:Nat×Nat)(i:Nat):Sx.Wh (wt f q i*(p:Rat)) K:=by
 unfold wt
 split
 ·split
  ·rw[Rat.one_mul];exact zlL W.hp.2
  ·exact W.wf
 ·split
  ·exact W.wrest
  ·rw[Rat.zero_mul];exact Sx.wh_zero.mono (Nat.zero_le _)
theorem Wk.wt_pos(W:Wk l f cap m n p K)(q:Nat×Nat)(i:Nat):0<=wt f q i:=by
 have h0:=W.f0;have h1:=W.f1;unfold wt
 split
 ·split
  ·decide
  ·exact h0
 ·split
  ·grind
  ·exact Rat.le_refl
theorem znM{i:Nat}(hi:i<m):(wA f l m).getD i []=l.map λq=>wt f q i:=by
 unfold wA;rw[List.getD_eq_getElem?_getD,List.getElem?_map,List.getElem?_range hi];rfl
theorem znN{i k:Nat}{q:Nat×Nat}(hi:i<m)(hq:l[k]?=some q):((wA f l m).getD i []).getD k 0=wt f q i:=by
 rw[znM hi,List.getD_eq_getElem?_getD,List.getElem?_map,hq];rfl
theorem Wk.wq(W:Wk l f cap m n p K):WQ (wA f l m) cap (List.replicate n 1) m n p K:=by
 refine⟨by simp[wA],λr hr=>?_,W.lc,sM,λr hr x hx=>?_,W.wc,λx hx=>?_,W.hp,W.hK,W.hm,W.hn,λx hx=>Rat.le_of_lt (W.pc x hx),W.big⟩
 ·obtain⟨i,_,rfl⟩:=List.mem_map.1 hr;simp[W.ln]
 ·obtain⟨i,_,rfl⟩:=List.mem_map.1 hr;obtain⟨q,_,rfl⟩:=List.mem_map.1 hx;exact W.wwt q i
 ·rw[(List.mem_replicate.1 hx).2];exact zei.mono (Nat.le_trans W.hp.1 W.hp.2)
theorem Wk.some(W:Wk l f cap m n p K){q:Nat×Nat}(hq:q∈l):1<=Du.sm m (λi=>wt f q i*2):=by
 obtain⟨⟨i,hi,h1⟩,⟨j,hj,h2⟩⟩:=W.ne q hq;have h0:=W.f0;have h9:=W.f1;have key:∀i,i<m->(1:Rat)<=wt f q i*2->1<=Du.sm m (λi=>wt f q i*2):=λi hi h=>by
  have e:Du.sm m (λt=>if t=i then wt f q i*2 else 0)=wt f q i*2:=by
   rw[Sx.sm_one m i _ hi (λk _ hne=>by rw[if_neg hne]),if_pos rfl]
  have:=Du.sm_le m (λt=>if t=i then wt f q i*2 else 0) (λi=>wt f q i*2) λt _=>by
   have:=W.wt_pos q t
   split
   ·next h=>subst h;exact Rat.le_refl
   ·grind
  rw[e]at this;exact Rat.le_trans h this
 by_cases hf:1<=f*2
 ·refine key i hi ?_;unfold wt;rw[if_pos h1]
  split
  ·grind
  ·exact hf
 ·refine key j hj ?_;unfold wt;rw[if_pos h2,if_pos h2]
  split
  ·grind
  ·grind
theorem Wk.nounb(W:Wk l f cap m n p K){Z:List Rat}(g:zoR (wA f l m) cap (List.replicate n 1) m n Z):False:=by
 refine zi1 (y:=λ_=>2) g ⟨λi _=>by decide,λk hk=>?_⟩;have hk':k<l.length:=by rw[W.ln];exact hk
 have h:=W.some (List.getElem_mem hk');have e:Du.sm m (λi=>(zbg (wA f l m) cap (List.replicate n 1) m n).A i k*2)=Du.sm m (λi=>wt f l[k] i*2):=Du.sm_congr _ _ _ λi hi=>by
  show((wA f l m).getD i []).getD k 0*2=_
  rw[znN hi (gE hk')]
 show(List.replicate n (1:Rat)).getD k 0<=_
 rw[e,List.getD_eq_getElem?_getD,List.getElem?_replicate,if_pos hk];exact h
def zbc:List Rat->Rat
 |[]=>0
 |a :: l=>a+zbc l
theorem zlg(a b:List Rat):zbc (a++b)=zbc a+zbc b:=by
 induction a with
 |nil=>simp only[List.nil_append,zbc];grind
 |cons x a ih=>simp only[List.cons_append,zbc,ih];grind
theorem zbf(a:List Rat)(x:Rat):zbc (a++[x])=zbc a+x:=by rw[zlg];simp only[zbc];grind
theorem zmL(l:List Rat):zbc l=Du.sm l.length (λk=>l.getD k 0):=by
 have key:∀n,n<=l.length->zbc (l.take n)=Du.sm n (λk=>l.getD k 0):=by
  intro n
  induction n with
  |zero=>intro _;rfl
  |succ n ih=>
   intro hn;rw[List.take_succ_eq_append_getElem oM,zbf,ih oM]
   show _=Du.sm n _+l.getD n 0
   rw[List.getD_eq_getElem?_getD (i:=n),gE oM];rfl
 have:=key l.length nl
 rwa [List.take_length]at this
theorem zbY{α:Type}(l:List α)(g:α->Rat)(h:Nat->Rat)(hh:∀(k:Nat)(a:α),l[k]?=some a->h k=g a):zbc (l.map g)=Du.sm l.length h:=by
 rw[zmL,List.length_map];refine Du.sm_congr _ _ _ λk hk=>?_
 rw[List.getD_eq_getElem?_getD,List.getElem?_map,gE hk,hh k _ (gE hk)];rfl
end
structure Bal(l:List (Nat×Nat))(f:Rat)(cap:List Rat)(m n M:Nat)(ld:Rat)(P Q:List Rat):Prop where
 lP:P.length=n
 lQ:Q.length=m
 pP:∀x∈P,0<=x
 pQ:∀x∈Q,0<=x
 pl:0<ld
 sum:Du.sm n (λk=>P.getD k 0)=1
 row:∀i,i<m->Du.sm n (λk=>wt f (l.getD k (0,0)) i*P.getD k 0)<=cap.getD i 0*ld
 col:∀(k:Nat)(q:Nat×Nat),l[k]?=some q->ld<=Du.sm m (λi=>wt f q i*Q.getD i 0)
 one:Du.sm m (λi=>cap.getD i 0*Q.getD i 0)=1
 den:∃z:Int,z≠0/\z.natAbs<=M/\Sx.Wh (ld*(z:Rat)) M/\(∀x∈P,Sx.Wh (x*(z:Rat)) M)/\∀x∈Q,Sx.Wh (x*(z:Rat)) M
section
variable {l : List (Nat × Nat)} {f : Rat} {cap : List Rat} {m n p K M : Nat} {ld val : Rat} {P Q X Y : List Rat}
theorem zoY{m i:Nat}{g:Nat->Rat}(hg:∀i,i<m->0<=g i)(hi:i<m):g i<=Du.sm m g:=by
 have e:Du.sm m (λt=>if t=i then g i else 0)=g i:=by
  rw[Sx.sm_one m i _ hi (λk _ hne=>by rw[if_neg hne]),if_pos rfl]
 rw[<-e];refine Du.sm_le m _ _ λt ht=>?_
 have:=hg t ht
 split
 ·next h=>subst h;exact Rat.le_refl
 ·exact this
theorem znT(n:Nat)(f:Nat->Rat)(h:∀k,k<n->0<=f k):Du.sm n f=0↔∀k,k<n->f k=0:=by
 constructor
 ·intro e k hk;have h1:=h k hk;have h2:=zoY h hk;rw[e]at h2;exact Rat.le_antisymm h2 h1
 ·intro e;rw[Du.sm_congr n f (λ_=>0) e,Du.sm_zero]
theorem zhL(l:List Rat)(c:Rat)(k:Nat):(l.map (·*c)).getD k 0=l.getD k 0*c:=by
 rw[List.getD_eq_getElem?_getD,List.getElem?_map,List.getD_eq_getElem?_getD]
 cases l[k]? with
 |none=>show(0:Rat)=0*c;grind
 |some x=>rfl
structure zpj(l:List (Nat×Nat))(f:Rat)(cap:List Rat)(m n M:Nat)(val:Rat)(X Y:List Rat):Prop where
 lX:X.length=n
 lY:Y.length=m
 pX:∀x∈X,0<=x
 pY:∀x∈Y,0<=x
 vp:0<val
 v1:Du.sm n (λk=>X.getD k 0)=val
 row:∀i,i<m->Du.sm n (λk=>wt f (l.getD k (0,0)) i*X.getD k 0)<=cap.getD i 0
 col:∀(k:Nat)(q:Nat×Nat),l[k]?=some q->1<=Du.sm m (λi=>wt f q i*Y.getD i 0)
 v2:Du.sm m (λi=>cap.getD i 0*Y.getD i 0)=val
 den:∃D:Int,D≠0/\D.natAbs<=M/\Sx.Wh (val*(D:Rat)) M/\(∀x∈X,Sx.Wh (x*(D:Rat)) M)/\∀x∈Y,Sx.Wh (x*(D:Rat)) M
theorem Wk.opt(W:Wk l f cap m n p K)(h:zpi (wA f l m) cap (List.replicate n 1) m n val X Y):zpj l f cap m n (szE K m) val X Y:=by
 obtain⟨L,bs,hF,hl,rfl,rfl,rfl⟩:=h;obtain⟨D,hD,hDz,hden⟩:=W.wq.den hF;have hS:=Sx.inv_sol hF.inv hF.pos;have hv:=Sx.pnt_val hF.inv;have hP:=Sx.inv_pri hF.inv hl;have hw:=Sx.pri_val hF.inv;have hM:szM K m<=szE K m:=by unfold szE;omega
 have hm1:m*szM K m<=szE K m:=by unfold szE;omega
 have hDE:D.natAbs<=szE K m:=by unfold szM at hM;omega
 have eA:∀i k,i<m->k<n->(zbg (wA f l m) cap (List.replicate n 1) m n).A i k=wt f (l.getD k (0,0)) i:=λi k hi hk=>by
  have hk':k<l.length:=by rw[W.ln];exact hk
  show((wA f l m).getD i []).getD k 0=_
  rw[znN hi (gE hk'),List.getD_eq_getElem?_getD,gE hk'];rfl
 have eC:∀k,k<n->(zbg (wA f l m) cap (List.replicate n 1) m n).C k=1:=λk hk=>by
  show(List.replicate n (1:Rat)).getD k 0=1
  rw[List.getD_eq_getElem?_getD,List.getElem?_replicate,if_pos hk];rfl
 have hcp:∀i,i<m->0<cap.getD i 0:=λi hi=>by
  have hi':i<cap.length:=by rw[W.lc];exact hi
  rw[List.getD_eq_getElem?_getD,gE hi'];exact W.pc _ (List.getElem_mem hi')
 have v2:Du.sm m (λi=>cap.getD i 0*L m (n+i))=L m (n+m):=hw;have vp:0<L m (n+m):=by
  have h0:∀i,i<m->0<=cap.getD i 0*L m (n+i):=λi hi=>Rat.mul_nonneg (Rat.le_of_lt (hcp i hi)) (hP.pos i hi)
  have h1:=Du.sm_nonneg m _ h0;rw[v2]at h1;refine Rat.lt_of_le_of_ne h1 λe=>?_
  have h2:=(znT m _ h0).1 (v2.trans e.symm);have h3:=hP.col 0 (show 0<n from W.hn.1);have h4:Du.sm m (λi=>(zbg (wA f l m) cap (List.replicate n 1) m n).A i 0*L m (n+i))=Du.sm m (λ_=>0):=Du.sm_congr _ _ _ λi hi=>by
   have h5:=h2 i hi;rcases Rat.mul_eq_zero.1 h5 with h6|h6
   ·have:=hcp i hi;rw[h6]at this;exact absurd this Rat.lt_irrefl
   ·rw[h6,Rat.mul_zero]
  have h3':(zbg (wA f l m) cap (List.replicate n 1) m n).C 0<=Du.sm m (λi=>(zbg (wA f l m) cap (List.replicate n 1) m n).A i 0*L m (n+i)):=h3;rw[h4,Du.sm_zero,eC 0 W.hn.1]at h3';exact absurd h3' dM
 refine⟨sM,sM,zfb λk hk=>hS.pos k hk,zfb λi hi=>hP.pos i hi,vp,?_,λi hi=>?_,λk q hq=>?_,?_,D,hD,hDE,(hden m nl (n+m) nl).mono hM,zfb λk hk=>?_,zfb λi hi=>(hden m nl (n+i) oM).mono hM⟩
 ·rw[<-(show Du.sm n (λk=>(zbg (wA f l m) cap (List.replicate n 1) m n).C k*Sx.pnt (zbg (wA f l m) cap (List.replicate n 1) m n) L bs k)=L m (n+m)from hv)];exact Du.sm_congr _ _ _ λk hk=>by rw[ze2 _ hk,eC k hk,Rat.one_mul]
 ·have h1:Du.sm n (λk=>(zbg (wA f l m) cap (List.replicate n 1) m n).A i k*Sx.pnt (zbg (wA f l m) cap (List.replicate n 1) m n) L bs k)<=cap.getD i 0:=hS.row i hi;rw[Du.sm_congr n (λk=>wt f (l.getD k (0,0)) i*_) _ λk hk=>by rw[ze2 _ hk,<-eA i k hi hk]];exact h1
 ·have hk:k<n:=by rw[<-W.ln];exact zdU hq
  have h1:(zbg (wA f l m) cap (List.replicate n 1) m n).C k<=Du.sm m (λi=>(zbg (wA f l m) cap (List.replicate n 1) m n).A i k*L m (n+i)):=hP.col k hk;rw[eC k hk]at h1;rw[Du.sm_congr m (λi=>wt f q i*_) _ λi hi=>by rw[ze2 _ hi,show wt f q i=(zbg (wA f l m) cap (List.replicate n 1) m n).A i k by rw[eA i k hi hk,List.getD_eq_getElem?_getD,hq];rfl]];exact h1
 ·rw[Du.sm_congr m (λi=>cap.getD i 0*_) _ λi hi=>by rw[ze2 _ hi]];exact v2
 ·exact(znL (m:=m) (f:=λt=>L t (n+m)) (bs:=bs) (v:=k) λt ht=>hden t oM (n+m) nl).mono hm1
theorem zpj.bal(h:zpj l f cap m n M val X Y):Bal l f cap m n M (1 / val) (X.map (·*(1 / val))) (Y.map (·*(1 / val))):=by
 have hv0:val≠0:=λe=>by have:=h.vp;rw[e]at this;exact Rat.lt_irrefl this
 have hvl:val*(1 / val)=1:=by rw[Rat.mul_comm,Rat.div_mul_cancel hv0]
 have hl:0<1 / val:=Rat.lt_of_le_of_ne (Sx.div_nonneg' dM h.vp) λe=>by rw[<-e,Rat.mul_zero]at hvl;exact absurd hvl dM
 have hpos:∀{l:List Rat},(∀x∈l,0<=x)->∀x∈l.map (·*(1 / val)),0<=x:=λhx x hm=>by
  obtain⟨y,hy,rfl⟩:=List.mem_map.1 hm;exact Rat.mul_nonneg (hx y hy) (Rat.le_of_lt hl)
 have hsm:∀(n:Nat)(g:Nat->Rat)(l:List Rat),Du.sm n (λk=>g k*(l.map (·*(1 / val))).getD k 0)=Du.sm n (λk=>g k*l.getD k 0)*(1 / val):=λn g l=>by
  rw[<-Sx.sm_mulr];exact Du.sm_congr _ _ _ λk _=>by rw[zhL,Rat.mul_assoc]
 refine⟨by rw[List.length_map,h.lX],by rw[List.length_map,h.lY],hpos h.pX,hpos h.pY,hl,?_,λi hi=>?_,λk q hq=>?_,?_,?_⟩
 ·have e:Du.sm n (λk=>(X.map (·*(1 / val))).getD k 0)=Du.sm n (λk=>X.getD k 0)*(1 / val):=by
   rw[<-Sx.sm_mulr];exact Du.sm_congr _ _ _ λk _=>zhL X _ k
  rw[e,h.v1,hvl]
 ·rw[hsm];exact Rat.mul_le_mul_of_nonneg_right (h.row i hi) (Rat.le_of_lt hl)
 ·rw[hsm];have:=Rat.mul_le_mul_of_nonneg_right (h.col k q hq) (Rat.le_of_lt hl)
  rwa [Rat.one_mul]at this
 ·rw[hsm,h.v2,hvl]
 ·obtain⟨D,hD,hDM,⟨z,hz,hzM⟩,hX,hY⟩:=h.den;have hd0:(D:Rat)≠0:=λe=>hD (by have:=congrArg Rat.num e;simpa using this)
  have key:∀x:Rat,x*(1 / val)*(z:Rat)=x*(D:Rat):=λx=>by
   rw[<-hz,Rat.mul_assoc,<-Rat.mul_assoc (1 / val),Rat.mul_comm (1 / val),hvl,Rat.one_mul]
  have hw:∀{l:List Rat},(∀x∈l,Sx.Wh (x*(D:Rat)) M)->∀x∈l.map (·*(1 / val)),Sx.Wh (x*(z:Rat)) M:=λhx x hm=>by
   obtain⟨y,hy,rfl⟩:=List.mem_map.1 hm;rw[key];exact hx y hy
  refine⟨z,λe=>?_,hzM,⟨D,?_,hDM⟩,hw hX,hw hY⟩
  ·rw[e]at hz;rcases Rat.mul_eq_zero.1 hz with h1|h1
   ·exact hv0 h1
   ·exact hd0 h1
  ·have:=key 1
   rwa [Rat.one_mul,Rat.one_mul]at this
def tS(f:Rat)(sh:List ((Nat×Nat)×Rat))(i:Nat):Rat:=zbc (sh.map λs=>s.2*wt f s.1 i)
def mxS(f:Rat)(cap:List Rat)(sh:List ((Nat×Nat)×Rat)):Nat->Rat
 |0=>0
 |i+1=>if mxS f cap sh i<tS f sh i / cap.getD i 0 then tS f sh i / cap.getD i 0 else mxS f cap sh i
theorem zle(f:Rat)(cap:List Rat)(sh:List ((Nat×Nat)×Rat))(i:Nat):mxS f cap sh i<=mxS f cap sh (i+1):=by
 simp only[mxS]
 split
 ·next h=>exact Rat.le_of_lt h
 ·exact Rat.le_refl
theorem zlZ(f:Rat)(cap:List Rat)(sh:List ((Nat×Nat)×Rat))(i:Nat):∀k,mxS f cap sh i<=mxS f cap sh (i+k)
 |0=>Rat.le_refl
 |k+1=>Rat.le_trans (zlZ f cap sh i k) (zle f cap sh (i+k))
theorem zl0{f:Rat}{cap:List Rat}{sh:List ((Nat×Nat)×Rat)}{i m:Nat}(hi:i<m):tS f sh i / cap.getD i 0<=mxS f cap sh m:=by
 have h1:=zlZ f cap sh (i+1) (m-(i+1));rw[show i+1+(m-(i+1))=m by omega]at h1;refine Rat.le_trans ?_ h1;simp only[mxS]
 split
 ·exact Rat.le_refl
 ·next h=>exact Rat.not_lt.1 h
theorem zlX{f:Rat}{cap:List Rat}{sh:List ((Nat×Nat)×Rat)}{t:Rat}(h0:0<=t):∀m,(∀i,i<m->tS f sh i / cap.getD i 0<=t)->mxS f cap sh m<=t
 |0,_=>h0
 |m+1,h=>by
  simp only[mxS]
  split
  ·exact h m oM
  ·exact zlX h0 m λi hi=>h i oM
theorem Bal.le(B:Bal l f cap m n M ld P Q){sh:List ((Nat×Nat)×Rat)}(hl:∀s∈sh,s.1∈l)(hp:∀s∈sh,0<=s.2)(h1:zbc (sh.map (·.2))=1){t:Rat}(ht:∀i,i<m->tS f sh i<=cap.getD i 0*t):ld<=t:=by
 let q:Nat->Nat×Nat:=λj=>(sh.getD j ((0,0),0)).1
 let x:Nat->Rat:=λj=>(sh.getD j ((0,0),0)).2
 have hg:∀(j:Nat)(s:(Nat×Nat)×Rat),sh[j]?=some s->sh.getD j ((0,0),0)=s:=λj s h=>by rw[List.getD_eq_getElem?_getD,h];rfl
 have e1:Du.sm sh.length x=1:=by
  rw[<-h1];exact(zbY sh _ x λj s h=>by show(sh.getD j ((0,0),0)).2=_;rw[hg j s h]).symm
 have e2:∀i,tS f sh i=Du.sm sh.length (λj=>wt f (q j) i*x j):=λi=>zbY sh _ _ λj s h=>by
  show wt f (sh.getD j ((0,0),0)).1 i*(sh.getD j ((0,0),0)).2=_
  rw[hg j s h,Rat.mul_comm]
 have hQ:∀i,i<m->0<=Q.getD i 0:=λi hi=>by
  have hi':i<Q.length:=by rw[B.lQ];exact hi
  rw[List.getD_eq_getElem?_getD,gE hi'];exact B.pQ _ (List.getElem_mem hi')
 have hsw:=Du.sm_swap m sh.length (λi=>Q.getD i 0) x (λi j=>wt f (q j) i);have h2:Du.sm m (λi=>Q.getD i 0*Du.sm sh.length (λj=>wt f (q j) i*x j))<=t:=by
  have h3:Du.sm m (λi=>Q.getD i 0*Du.sm sh.length (λj=>wt f (q j) i*x j))<=Du.sm m (λi=>cap.getD i 0*Q.getD i 0*t):=Du.sm_le _ _ _ λi hi=>by
   rw[<-e2];have:=Rat.mul_le_mul_of_nonneg_left (ht i hi) (hQ i hi)
   grind
  rw[Sx.sm_mulr,B.one,Rat.one_mul]at h3;exact h3
 rw[hsw]at h2;refine Rat.le_trans ?_ h2;have h4:Du.sm sh.length (λj=>x j*ld)<=Du.sm sh.length (λj=>x j*Du.sm m (λi=>wt f (q j) i*Q.getD i 0)):=Du.sm_le _ _ _ λj hj=>by
  have hs:=List.getElem_mem hj;have hx:x j=(sh[j]).2:=by show(sh.getD j ((0,0),0)).2=_;rw[hg j _ (gE hj)]
  have hq:q j=(sh[j]).1:=by show(sh.getD j ((0,0),0)).1=_;rw[hg j _ (gE hj)]
  rw[hx,hq];obtain⟨k,hk⟩:=List.getElem?_of_mem (hl _ hs);exact Rat.mul_le_mul_of_nonneg_left (B.col k _ hk) (hp _ hs)
 rw[Sx.sm_mulr,e1,Rat.one_mul]at h4;exact h4
theorem div_le_iff'{a c t:Rat}(hc:0<c):a / c<=t↔a<=c*t:=by
 have hc0:c≠0:=λe=>by rw[e]at hc;exact Rat.lt_irrefl hc
 constructor
 ·intro h;have:=Rat.mul_le_mul_of_nonneg_right h (Rat.le_of_lt hc);rw[Rat.div_mul_cancel hc0]at this;rw[Rat.mul_comm];exact this
 ·intro h;refine Rat.not_lt.1 λh'=>?_
  have:=Rat.mul_lt_mul_of_pos_right h' hc;rw[Rat.div_mul_cancel hc0,Rat.mul_comm]at this;exact absurd h (Rat.not_le.2 this)
def shs:List (Nat×Nat)->List Rat->List ((Nat×Nat)×Rat)
 |q :: l,x :: P=>if 0<x then(q,x) :: shs l P else shs l P
 |_,_=>[]
theorem zhs:∀(l:List (Nat×Nat))(P:List Rat)(q:Nat×Nat)(x:Rat),l.length=P.length->shs (l++[q]) (P++[x])=shs l P++(if 0<x then [(q,x)]else [])
 |[],[],q,x,_=>by simp only[List.nil_append,shs]
 |a :: l,b :: P,q,x,h=>by
  simp only[List.cons_append,shs,zhs l P q x (by simpa using h)]
  split<;>simp
theorem zcC:∀{l:List (Nat×Nat)} {P:List Rat} {s:(Nat×Nat)×Rat},s∈shs l P->s.1∈l/\s.2∈P/\0<s.2
 |q :: l,x :: P,s,h=>by
  simp only[shs]at h
  split at h
  ·next hx=>
   rcases List.mem_cons.1 h with rfl|h
   ·exact⟨sM,sM,hx⟩
   ·have:=zcC h;exact⟨by simp[this.1],by simp[this.2.1],this.2.2⟩
  ·have:=zcC h;exact⟨by simp[this.1],by simp[this.2.1],this.2.2⟩
theorem zjb(g:Nat×Nat->Rat):∀(l:List (Nat×Nat))(P:List Rat),l.length=P.length->(∀x∈P,0<=x)->zbc ((shs l P).map λs=>s.2*g s.1)=Du.sm l.length (λk=>g (l.getD k (0,0))*P.getD k 0):=by
 intro l P hl hp;have h1:∀(l:List (Nat×Nat))(P:List Rat),l.length=P.length->(∀x∈P,0<=x)->zbc ((shs l P).map λs=>s.2*g s.1)=zbc ((l.zip P).map λs=>s.2*g s.1):=by
  intro l
  induction l with
  |nil=>intro P _ _;cases P<;>rfl
  |cons q l ih=>
   intro P hl hp
   cases P with
   |nil=>cases hl
   |cons x P=>
    have ih:=ih P (by simpa using hl) λy hy=>hp y (by simp[hy])
    have hx:=hp x sM;simp only[shs,List.zip_cons_cons,List.map_cons,zbc]
    split
    ·simp only[List.map_cons,zbc,ih]
    ·next h0=>
     have e:x=0:=Rat.le_antisymm (Rat.not_lt.1 h0) hx;rw[ih,e];grind
 rw[h1 l P hl hp,zbY (l.zip P) _ (λk=>g (l.getD k (0,0))*P.getD k 0) λk s hs=>?_]
 ·rw[List.length_zip,<-hl,Nat.min_self]
 ·rw[List.getElem?_zip_eq_some]at hs;rw[List.getD_eq_getElem?_getD,hs.1,List.getD_eq_getElem?_getD,hs.2]
  show g s.1*s.2=s.2*g s.1
  exact Rat.mul_comm _ _
theorem Bal.tS_eq(B:Bal l f cap m n M ld P Q)(hl:l.length=n)(i:Nat):tS f (shs l P) i=Du.sm n (λk=>wt f (l.getD k (0,0)) i*P.getD k 0):=by
 have:=zjb (λq=>wt f q i) l P (by rw[hl,B.lP]) B.pP;rw[hl]at this;exact this
theorem Bal.total(B:Bal l f cap m n M ld P Q)(hl:l.length=n):zbc ((shs l P).map (·.2))=1:=by
 have:=zjb (λ_=>1) l P (by rw[hl,B.lP]) B.pP;have e:((shs l P).map λs=>s.2*(1:Rat))=(shs l P).map (·.2):=List.map_congr_left λs _=>Rat.mul_one _
 rw[e]at this;rw[this,hl,Du.sm_congr n _ (λk=>P.getD k 0) λk _=>Rat.one_mul _,B.sum]
theorem Bal.load(B:Bal l f cap m n M ld P Q)(hl:l.length=n)(hc:cap.length=m)(hpc:∀c∈cap,0<c):mxS f cap (shs l P) m=ld:=by
 have hcp:∀i,i<m->0<cap.getD i 0:=λi hi=>by
  have hi':i<cap.length:=by rw[hc];exact hi
  rw[List.getD_eq_getElem?_getD,gE hi'];exact hpc _ (List.getElem_mem hi')
 refine Rat.le_antisymm (zlX (Rat.le_of_lt B.pl) m λi hi=>?_) (B.le (λs hs=>(zcC hs).1) (λs hs=>Rat.le_of_lt (zcC hs).2.2) (B.total hl) λi hi=>?_)
 ·rw[div_le_iff' (hcp i hi),B.tS_eq hl];exact B.row i hi
 ·exact(div_le_iff' (hcp i hi)).1 (zl0 hi)
end
end Go.Proofs.YtfgffkmddanjjaaGreatDoor
