/-
  Plain: the sizes of a tableau whose numbers are fractions: all columns and the right side over one number p.
-/
import Derived.Test.YtfgffkmddanjjaaGreatDoorSxA
import Derived.Test.YtfgffkmddanjjaaGreatDoorRg
set_option linter.unusedVariables false
set_option linter.unusedSimpArgs false
namespace Sx
open Du
theorem zfo (p:Rat):∀ (n:Nat) (A:Nat->Nat->Rat),det n (λ r c => A r c * p)=det n A * p ^ n
 | 0,A => by simp [det]
 | n + 1,A => by
  have e:∀ i,rem (λ r c => A r c * p) i=λ r c => rem A i r c * p:=λ i => rfl
  simp only [det];rw [<- sm_mulr];refine sm_congr _ _ _ λ i _ => ?_
  rw [e,zfo p n,Rat.pow_succ]
  grind
theorem zie {p:Rat} (hp:p ≠ 0):∀ n:Nat,p ^ n ≠ 0
 | 0 => by simp
 | n + 1 => by
  rw [Rat.pow_succ];intro h;rcases Rat.mul_eq_zero.1 h with h | h
  ·exact zie hp n h
  ·exact hp h
variable {d : Dat} {T : Nat → Nat → Rat} {B : Nat → Nat}
theorem Dat.Inv.sizeS (h:d.Inv T B) {K p:Nat} (hp:1<=p) (hK:∀ j,j<=d.w->∀ i,i < d.m->Wh (d.col j i * (p:Rat)) K) (hC:∀ j,j<=d.w->Wh (d.cost j) K) :
  ∃ D:Int,D ≠ 0/\D.natAbs<=dz K d.m/\∀ t,t<=d.m->∀ j,j<=d.w->Wh (T t j * (D:Rat)) (d.m * (dz K d.m * K) + (dz K d.m * K + dz K d.m)):=by
 have hp0:(p:Rat) ≠ 0:=λ e => by have:=congrArg Rat.num e; simp at this; omega
 have hP:∀ r c,r < d.m->c < d.m->Wh (d.col (B r) c * (p:Rat)) K:=λ r c hr hc => hK _ (by have:=h.bas r hr; omega) c hc
 obtain ⟨D,hD,hDz⟩:=zeS K d.m (λ t i => d.col (B t) i * (p:Rat)) hP;have hcomb:∀ j,j<=d.w->∀ i,i < d.m->sm d.m (λ t => T t j * (d.col (B t) i * (p:Rat)))=d.col j i * (p:Rat):=λ j hj i hi => by
  rw [h.comb j hj i hi,<- sm_mulr];exact sm_congr _ _ _ λ t _ => by grind
 have h0:∀ t,t < d.m->∀ j,j<=d.w->Wh (T t j * (D:Rat)) (dz K d.m):=λ t ht j hj => by
  have h1:=zfr d.m (λ t i => d.col (B t) i * (p:Rat)) (λ t => T t j) (λ i => d.col j i * (p:Rat)) (λ i hi => hcomb j hj i hi) t ht;rw [<- hD,<- h1];refine zeS K d.m _ λ r c hr hc => ?_
  unfold zav
  by_cases e:r=t
  ·rw [if_pos e]; exact hK j hj c hc
  ·rw [if_neg e]; exact hP r c hr hc
 refine ⟨D,λ e => ?_,hDz,λ t ht j hj => ?_⟩
 ·have h2:=zfo (p:Rat) d.m (λ t i => d.col (B t) i);rw [hD,e] at h2;rcases Rat.mul_eq_zero.1 h2.symm with h3 | h3
  ·exact h.det h3
  ·exact zie hp0 _ h3
 by_cases hm:t < d.m
 ·exact (h0 t hm j hj).mono (by omega)
 ·obtain rfl:t=d.m:=by omega
  have e:T d.m j * (D:Rat)=sm d.m (λ t => T t j * (D:Rat) * d.cost (B t)) + -(d.cost j * (D:Rat)):=by
   rw [h.last j hj,sm_congr d.m (λ t => T t j * (D:Rat) * d.cost (B t)) (λ t => (D:Rat) * (T t j * d.cost (B t))) λ t _ => by grind,zbP]; grind
  rw [e];have w1:=wh_sm (dz K d.m * K) d.m (λ t => T t j * (D:Rat) * d.cost (B t)) λ t ht => (h0 t ht j hj).mul (hC _ (by have:=h.bas t ht; omega))
  have w2:Wh (d.cost j * (D:Rat)) (K * dz K d.m):=(hC j hj).mul ⟨D,rfl,hDz⟩;exact (w1.add w2.neg).mono (by rw [Nat.mul_comm K]; omega)
end Sx
namespace Go.Proofs.YtfgffkmddanjjaaGreatDoor
open Go.RowKit
structure WQ (A:List (List Rat)) (b C:List Rat) (m n p K:Nat):Prop where
 lA:A.length=m
 rA:∀ r∈A,r.length=n
 lb:b.length=m
 lC:C.length=n
 wA:∀ r∈A,∀ x∈r,Sx.Wh (x * (p:Rat)) K
 wb:∀ x∈b,Sx.Wh (x * (p:Rat)) K
 wC:∀ x∈C,Sx.Wh x K
 hp:1<=p/\p<=K
 hK:K<=1000000
 hm:1<=m/\m<=8
 hn:1<=n/\n<=40
 pb:∀ x∈b,0<=x
 big:100 * (K * (K * szE K m))<=KK
section
variable {A : List (List Rat)} {b C : List Rat} {m n p K : Nat}
theorem WQ.K1 (W:WQ A b C m n p K):1<=K:=Nat.le_trans W.hp.1 W.hp.2
theorem WQ.bigE (W:WQ A b C m n p K):szE K m<=KK:=by
 have h1:szE K m<=K * szE K m:=Nat.le_mul_of_pos_left _ W.K1;have h2:K * szE K m<=K * (K * szE K m):=Nat.le_mul_of_pos_left _ W.K1;have:=W.big;omega
theorem WQ.bigM (W:WQ A b C m n p K):szM K m<=KK:=by
 have:=W.bigE;unfold szE at this;omega
theorem zeH {l:List Rat} (h:∀ x∈l,Sx.Wh (x * (p:Rat)) K) (i:Nat):Sx.Wh (l.getD i 0 * (p:Rat)) K:=by
 rw [List.getD_eq_getElem?_getD]
 cases hl:l[i]? with
 | none => show Sx.Wh (0 * (p:Rat)) K; rw [Rat.zero_mul]; exact Sx.wh_zero.mono (Nat.zero_le _)
 | some x => exact h x (List.mem_of_getElem? hl)
theorem zey (q:Nat):((q:Nat):Rat)=(((q:Nat):Int):Rat):=rfl
theorem zkB {q:Nat} (h:q<=K):Sx.Wh (q:Rat) K:=⟨(q:Int),zey q,by simpa using h⟩
theorem WQ.den (W:WQ A b C m n p K) {L:Nat->Nat->Rat} {bs:Nat->Nat} (hF:Sx.Feas (zbc A b C m n) L bs) :
  ∃ D:Int,D ≠ 0/\D.natAbs<=Sx.dz K m/\∀ i,i<=m->∀ j,j<=n + m->Sx.Wh (L i j * (D:Rat)) (szM K m):=by
 have hcol:∀ j,j<=(zbc A b C m n).w->∀ i,i < (zbc A b C m n).m->Sx.Wh ((zbc A b C m n).col j i * (p:Rat)) K:=λ j _ i _ => by
  unfold Sx.Dat.col zbc
  show Sx.Wh ((if j < n then _ else if j < n + m then _ else _) * (p:Rat)) K
  split
  ·show Sx.Wh ((A.getD i []).getD j 0 * (p:Rat)) K
   rw [List.getD_eq_getElem?_getD (l:=A)]
   cases ha:A[i]? with
   | none => exact zeH (l:=[]) (λ x h => by simp at h) j
   | some r => exact zeH (W.wA r (List.mem_of_getElem? ha)) j
  ·split
   ·show Sx.Wh ((if i=j - n then 1 else 0) * (p:Rat)) K
    split
    ·rw [Rat.one_mul]; exact zkB W.hp.2
    ·rw [Rat.zero_mul]; exact Sx.wh_zero.mono (Nat.zero_le _)
   ·exact zeH W.wb i
 have hcst:∀ j,j<=(zbc A b C m n).w->Sx.Wh ((zbc A b C m n).cost j) K:=λ j _ => by
  unfold Sx.Dat.cost zbc
  show Sx.Wh (if j < n then _ else _) K
  split
  ·exact zlA W.wC j
  ·exact Sx.wh_zero.mono (Nat.zero_le _)
 exact hF.inv.sizeS W.hp.1 hcol hcst
theorem WQ.sz (W:WQ A b C m n p K):SzD (zbc A b C m n) m n (n + m):=by
 refine ⟨rfl,rfl,rfl,λ L bs hF i hi j hj => ?_⟩;obtain ⟨D,hD,hDz,hsz⟩:=W.den hF;have hb:=W.bigM;have hd:D.natAbs<=KK:=by unfold szM at hb; omega
 exact zca hD hd (hsz i hi j (by omega)) hb
theorem ze0 {x:Rat} (hp:1<=p) (hpK:p<=K) (h:Sx.Wh (x * (p:Rat)) K) (hK:K<=1000000):zbX x=true:=by
 have h1:=zk2 (x:=x) (D:=(p:Int)) (N:=K) (M:=p) (by omega) (by rw [<- zey]; exact h) (by simp);unfold zbX;rw [Lib.decDigits_length,Lib.decDigits_length];have h2:Lib.nDigits x.num.natAbs<=20:=znp (by have:=h1.1; omega);have h3:Lib.nDigits x.den<=20:=znp (by have:=h1.2; omega);simp [h2,h3]
theorem WQ.err (W:WQ A b C m n p K):Prg.err ⟨A.map (·.map some),b.map some,C.map some⟩=0:=by
 have hm:=W.hm;have hn:=W.hn;have hsome:∀ x∈Prg.all ⟨A.map (·.map some),b.map some,C.map some⟩,∃ r,x=some r/\zbX r=true:=by
  intro x hx;unfold Prg.all at hx;simp only [List.mem_append,List.mem_flatten,List.mem_map] at hx;rcases hx with (⟨l,⟨a,ha,rfl⟩,hx⟩ | ⟨r,hr,rfl⟩) | ⟨r,hr,rfl⟩
  ·obtain ⟨r,hr,rfl⟩:=List.mem_map.1 hx;exact ⟨r,rfl,ze0 W.hp.1 W.hp.2 (W.wA a ha r hr) W.hK⟩
  ·exact ⟨r,rfl,ze0 W.hp.1 W.hp.2 (W.wb r hr) W.hK⟩
  ·exact ⟨r,rfl,zjH (W.wC r hr) W.hK⟩
 have hnum:za3 (Prg.all ⟨A.map (·.map some),b.map some,C.map some⟩)=0:=by
  refine zit (λ x hx => ?_) λ x hx => ?_
  ·obtain ⟨r,rfl,_⟩:=hsome x hx; rfl
  ·obtain ⟨r,rfl,hr⟩:=hsome x hx;simp [zhy,hr]
 unfold Prg.err;rw [if_neg (by simp only [List.length_map,W.lA,W.lb,W.lC]; omega),if_neg (by
  rw [Bool.not_eq_true,List.any_eq_false];intro r hr;obtain ⟨a,ha,rfl⟩:=List.mem_map.1 hr;simp [W.rA a ha,W.lC]),if_neg (by rw [hnum]; simp),if_neg]
 rw [Bool.not_eq_true];unfold zmL;rw [List.any_eq_false];intro x hx;obtain ⟨r,hr,rfl⟩:=List.mem_map.1 hx;have:=Rat.num_nonneg.2 (W.pb r hr);simp only [zgM,decide_eq_true_eq];omega
end
def wt (f:Rat) (q:Nat × Nat) (i:Nat):Rat:=if q.1.testBit i=true then (if q.2.testBit i=true then 1 else f) else if q.2.testBit i=true then 1 - f else 0
def prs (R S:List Nat):List (Nat × Nat):=R.flatMap λ r => S.map λ s => (r,s)
def wA (f:Rat) (l:List (Nat × Nat)) (m:Nat):List (List Rat):=(List.range m).map λ i => l.map λ q => wt f q i
structure Wk (l:List (Nat × Nat)) (f:Rat) (cap:List Rat) (m n p K:Nat):Prop where
 lc:cap.length=m
 ln:l.length=n
 ne:∀ q∈l,(∃ i,i < m/\q.1.testBit i=true)/\∃ i,i < m/\q.2.testBit i=true
 f0:0<=f
 f1:f<=1
 wf:Sx.Wh (f * (p:Rat)) K
 wc:∀ c∈cap,Sx.Wh (c * (p:Rat)) K
 pc:∀ c∈cap,0 < c
 hp:1<=p/\p<=K
 hK:K<=1000000
 hm:1<=m/\m<=8
 hn:1<=n/\n<=40
 big:100 * (K * (K * szE K m))<=KK
section
variable {l : List (Nat × Nat)} {f : Rat} {cap : List Rat} {m n p K : Nat}
theorem Wk.wrest (W:Wk l f cap m n p K):Sx.Wh ((1 - f) * (p:Rat)) K:=by
 obtain ⟨z,hz,_⟩:=W.wf;have hp0:(0:Rat)<=(p:Rat):=by exact_mod_cast Nat.zero_le p
 have e:(1 - f) * (p:Rat)=(((p:Int) - z:Int):Rat):=by
  rw [Rat.intCast_sub,<- hz,<- zey]; grind
 have h1:(0:Rat)<=(z:Rat):=by rw [<- hz]; exact Rat.mul_nonneg W.f0 hp0
 have h2:(z:Rat)<=((p:Int):Rat):=by
  rw [<- hz];have:=Rat.mul_le_mul_of_nonneg_right W.f1 hp0;rw [Rat.one_mul] at this;rw [<- zey]; exact this
 have h3:0<=z:=by exact_mod_cast h1
 have h4:z<=(p:Int):=by exact_mod_cast h2
 refine ⟨(p:Int) - z,e,?_⟩;have:=W.hp.2;omega
theorem Wk.wwt (W:Wk l f cap m n p K) (q:Nat × Nat) (i:Nat):Sx.Wh (wt f q i * (p:Rat)) K:=by
 unfold wt
 split
 ·split
  ·rw [Rat.one_mul]; exact zkB W.hp.2
  ·exact W.wf
 ·split
  ·exact W.wrest
  ·rw [Rat.zero_mul]; exact Sx.wh_zero.mono (Nat.zero_le _)
theorem Wk.wt_pos (W:Wk l f cap m n p K) (q:Nat × Nat) (i:Nat):0<=wt f q i:=by
 have h0:=W.f0;have h1:=W.f1;unfold wt
 split
 ·split
  ·decide
  ·exact h0
 ·split
  ·grind
  ·exact Rat.le_refl
theorem zmq {i:Nat} (hi:i < m):(wA f l m).getD i []=l.map λ q => wt f q i:=by
 unfold wA;rw [List.getD_eq_getElem?_getD,List.getElem?_map,List.getElem?_range hi]; rfl
theorem zmr {i k:Nat} {q:Nat × Nat} (hi:i < m) (hq:l[k]?=some q):((wA f l m).getD i []).getD k 0=wt f q i:=by
 rw [zmq hi,List.getD_eq_getElem?_getD,List.getElem?_map,hq]; rfl
theorem Wk.wq (W:Wk l f cap m n p K):WQ (wA f l m) cap (List.replicate n 1) m n p K:=by
 refine ⟨by simp [wA],λ r hr => ?_,W.lc,by simp,λ r hr x hx => ?_,W.wc,λ x hx => ?_,W.hp,W.hK,W.hm,W.hn,λ x hx => Rat.le_of_lt (W.pc x hx),W.big⟩
 ·obtain ⟨i,_,rfl⟩:=List.mem_map.1 hr;simp [W.ln]
 ·obtain ⟨i,_,rfl⟩:=List.mem_map.1 hr;obtain ⟨q,_,rfl⟩:=List.mem_map.1 hx;exact W.wwt q i
 ·rw [(List.mem_replicate.1 hx).2]; exact zgn.mono (Nat.le_trans W.hp.1 W.hp.2)
theorem Wk.some (W:Wk l f cap m n p K) {q:Nat × Nat} (hq:q∈l):1<=Du.sm m (λ i => wt f q i * 2):=by
 obtain ⟨⟨i,hi,h1⟩,⟨j,hj,h2⟩⟩:=W.ne q hq;have h0:=W.f0;have h9:=W.f1;have key:∀ i,i < m->(1:Rat)<=wt f q i * 2->1<=Du.sm m (λ i => wt f q i * 2):=λ i hi h => by
  have e:Du.sm m (λ t => if t=i then wt f q i * 2 else 0)=wt f q i * 2:=by
   rw [Sx.sm_one m i _ hi (λ k _ hne => by rw [if_neg hne]),if_pos rfl]
  have:=Du.sm_le m (λ t => if t=i then wt f q i * 2 else 0) (λ i => wt f q i * 2) λ t _ => by
   have:=W.wt_pos q t
   split
   ·next h => subst h; exact Rat.le_refl
   ·grind
  rw [e] at this;exact Rat.le_trans h this
 by_cases hf:1<=f * 2
 ·refine key i hi ?_;unfold wt;rw [if_pos h1]
  split
  ·grind
  ·exact hf
 ·refine key j hj ?_;unfold wt;rw [if_pos h2,if_pos h2]
  split
  ·grind
  ·grind
theorem Wk.nounb (W:Wk l f cap m n p K) {Z:List Rat} (g:znr (wA f l m) cap (List.replicate n 1) m n Z):False:=by
 refine zhZ (y:=λ _ => 2) g ⟨λ i _ => by decide,λ k hk => ?_⟩;have hk':k < l.length:=by rw [W.ln]; exact hk
 have h:=W.some (List.getElem_mem hk');have e:Du.sm m (λ i => (zbc (wA f l m) cap (List.replicate n 1) m n).A i k * 2)=Du.sm m (λ i => wt f l[k] i * 2):=Du.sm_congr _ _ _ λ i hi => by
  show ((wA f l m).getD i []).getD k 0 * 2=_
  rw [zmr hi (gE hk')]
 show (List.replicate n (1:Rat)).getD k 0<=_
 rw [e,List.getD_eq_getElem?_getD,List.getElem?_replicate,if_pos hk];exact h
def zbM:List Rat->Rat
 | [] => 0
 | a :: l => a + zbM l
theorem zj7 (a b:List Rat):zbM (a ++ b)=zbM a + zbM b:=by
 induction a with
 | nil => simp only [List.nil_append,zbM]; grind
 | cons x a ih => simp only [List.cons_append,zbM,ih]; grind
theorem zb1 (a:List Rat) (x:Rat):zbM (a ++ [x])=zbM a + x:=by rw [zj7]; simp only [zbM]; grind
theorem zlx (l:List Rat):zbM l=Du.sm l.length (λ k => l.getD k 0):=by
 have key:∀ n,n<=l.length->zbM (l.take n)=Du.sm n (λ k => l.getD k 0):=by
  intro n
  induction n with
  | zero => intro _; rfl
  | succ n ih =>
   intro hn;rw [List.take_succ_eq_append_getElem (by omega),zb1,ih (by omega)]
   show _=Du.sm n _ + l.getD n 0
   rw [List.getD_eq_getElem?_getD (i:=n),gE (by omega)]; rfl
 have:=key l.length nl
 rwa [List.take_length] at this
theorem zbL {α:Type} (l:List α) (g:α->Rat) (h:Nat->Rat) (hh:∀ (k:Nat) (a:α),l[k]?=some a->h k=g a):zbM (l.map g)=Du.sm l.length h:=by
 rw [zlx,List.length_map];refine Du.sm_congr _ _ _ λ k hk => ?_
 rw [List.getD_eq_getElem?_getD,List.getElem?_map,gE hk,hh k _ (gE hk)]; rfl
end
structure Bal (l:List (Nat × Nat)) (f:Rat) (cap:List Rat) (m n M:Nat) (ld:Rat) (P Q:List Rat):Prop where
 lP:P.length=n
 lQ:Q.length=m
 pP:∀ x∈P,0<=x
 pQ:∀ x∈Q,0<=x
 pl:0 < ld
 sum:Du.sm n (λ k => P.getD k 0)=1
 row:∀ i,i < m->Du.sm n (λ k => wt f (l.getD k (0,0)) i * P.getD k 0)<=cap.getD i 0 * ld
 col:∀ (k:Nat) (q:Nat × Nat),l[k]?=some q->ld<=Du.sm m (λ i => wt f q i * Q.getD i 0)
 one:Du.sm m (λ i => cap.getD i 0 * Q.getD i 0)=1
 den:∃ z:Int,z ≠ 0/\z.natAbs<=M/\Sx.Wh (ld * (z:Rat)) M/\(∀ x∈P,Sx.Wh (x * (z:Rat)) M)/\∀ x∈Q,Sx.Wh (x * (z:Rat)) M
section
variable {l : List (Nat × Nat)} {f : Rat} {cap : List Rat} {m n p K M : Nat} {ld val : Rat} {P Q X Y : List Rat}
theorem znz {m i:Nat} {g:Nat->Rat} (hg:∀ i,i < m->0<=g i) (hi:i < m):g i<=Du.sm m g:=by
 have e:Du.sm m (λ t => if t=i then g i else 0)=g i:=by
  rw [Sx.sm_one m i _ hi (λ k _ hne => by rw [if_neg hne]),if_pos rfl]
 rw [<- e];refine Du.sm_le m _ _ λ t ht => ?_
 have:=hg t ht
 split
 ·next h => subst h; exact Rat.le_refl
 ·exact this
theorem zmx (n:Nat) (f:Nat->Rat) (h:∀ k,k < n->0<=f k):Du.sm n f=0↔∀ k,k < n->f k=0:=by
 constructor
 ·intro e k hk;have h1:=h k hk;have h2:=znz h hk;rw [e] at h2;exact Rat.le_antisymm h2 h1
 ·intro e;rw [Du.sm_congr n f (λ _ => 0) e,Du.sm_zero]
theorem zcD (l:List Rat) (c:Rat) (k:Nat):(l.map (· * c)).getD k 0=l.getD k 0 * c:=by
 rw [List.getD_eq_getElem?_getD,List.getElem?_map,List.getD_eq_getElem?_getD]
 cases l[k]? with
 | none => show (0:Rat)=0 * c; grind
 | some x => rfl
structure znQ (l:List (Nat × Nat)) (f:Rat) (cap:List Rat) (m n M:Nat) (val:Rat) (X Y:List Rat):Prop where
 lX:X.length=n
 lY:Y.length=m
 pX:∀ x∈X,0<=x
 pY:∀ x∈Y,0<=x
 vp:0 < val
 v1:Du.sm n (λ k => X.getD k 0)=val
 row:∀ i,i < m->Du.sm n (λ k => wt f (l.getD k (0,0)) i * X.getD k 0)<=cap.getD i 0
 col:∀ (k:Nat) (q:Nat × Nat),l[k]?=some q->1<=Du.sm m (λ i => wt f q i * Y.getD i 0)
 v2:Du.sm m (λ i => cap.getD i 0 * Y.getD i 0)=val
 den:∃ D:Int,D ≠ 0/\D.natAbs<=M/\Sx.Wh (val * (D:Rat)) M/\(∀ x∈X,Sx.Wh (x * (D:Rat)) M)/\∀ x∈Y,Sx.Wh (x * (D:Rat)) M
theorem Wk.opt (W:Wk l f cap m n p K) (h:znP (wA f l m) cap (List.replicate n 1) m n val X Y):znQ l f cap m n (szE K m) val X Y:=by
 obtain ⟨L,bs,hF,hl,rfl,rfl,rfl⟩:=h;obtain ⟨D,hD,hDz,hden⟩:=W.wq.den hF;have hS:=Sx.inv_sol hF.inv hF.pos;have hv:=Sx.pnt_val hF.inv;have hP:=Sx.inv_pri hF.inv hl;have hw:=Sx.pri_val hF.inv;have hM:szM K m<=szE K m:=by unfold szE; omega
 have hm1:m * szM K m<=szE K m:=by unfold szE; omega
 have hDE:D.natAbs<=szE K m:=by unfold szM at hM; omega
 have eA:∀ i k,i < m->k < n->(zbc (wA f l m) cap (List.replicate n 1) m n).A i k=wt f (l.getD k (0,0)) i:=λ i k hi hk => by
  have hk':k < l.length:=by rw [W.ln]; exact hk
  show ((wA f l m).getD i []).getD k 0=_
  rw [zmr hi (gE hk'),List.getD_eq_getElem?_getD,gE hk']; rfl
 have eC:∀ k,k < n->(zbc (wA f l m) cap (List.replicate n 1) m n).C k=1:=λ k hk => by
  show (List.replicate n (1:Rat)).getD k 0=1
  rw [List.getD_eq_getElem?_getD,List.getElem?_replicate,if_pos hk]; rfl
 have hcp:∀ i,i < m->0 < cap.getD i 0:=λ i hi => by
  have hi':i < cap.length:=by rw [W.lc]; exact hi
  rw [List.getD_eq_getElem?_getD,gE hi'];exact W.pc _ (List.getElem_mem hi')
 have v2:Du.sm m (λ i => cap.getD i 0 * L m (n + i))=L m (n + m):=hw;have vp:0 < L m (n + m):=by
  have h0:∀ i,i < m->0<=cap.getD i 0 * L m (n + i):=λ i hi => Rat.mul_nonneg (Rat.le_of_lt (hcp i hi)) (hP.pos i hi)
  have h1:=Du.sm_nonneg m _ h0;rw [v2] at h1;refine Rat.lt_of_le_of_ne h1 λ e => ?_
  have h2:=(zmx m _ h0).1 (v2.trans e.symm);have h3:=hP.col 0 (show 0 < n from W.hn.1);have h4:Du.sm m (λ i => (zbc (wA f l m) cap (List.replicate n 1) m n).A i 0 * L m (n + i))=Du.sm m (λ _ => 0):=Du.sm_congr _ _ _ λ i hi => by
   have h5:=h2 i hi;rcases Rat.mul_eq_zero.1 h5 with h6 | h6
   ·have:=hcp i hi; rw [h6] at this; exact absurd this Rat.lt_irrefl
   ·rw [h6,Rat.mul_zero]
  have h3':(zbc (wA f l m) cap (List.replicate n 1) m n).C 0<=Du.sm m (λ i => (zbc (wA f l m) cap (List.replicate n 1) m n).A i 0 * L m (n + i)):=h3;rw [h4,Du.sm_zero,eC 0 W.hn.1] at h3';exact absurd h3' (by decide)
 refine ⟨by simp,by simp,zez λ k hk => hS.pos k hk,zez λ i hi => hP.pos i hi,vp,?_,λ i hi => ?_,λ k q hq => ?_,?_,D,hD,hDE,(hden m nl (n + m) nl).mono hM,zez λ k hk => ?_,zez λ i hi => (hden m nl (n + i) (by omega)).mono hM⟩
 ·rw [<- (show Du.sm n (λ k => (zbc (wA f l m) cap (List.replicate n 1) m n).C k * Sx.pnt (zbc (wA f l m) cap (List.replicate n 1) m n) L bs k)=L m (n + m) from hv)];exact Du.sm_congr _ _ _ λ k hk => by rw [zeo _ hk,eC k hk,Rat.one_mul]
 ·have h1:Du.sm n (λ k => (zbc (wA f l m) cap (List.replicate n 1) m n).A i k * Sx.pnt (zbc (wA f l m) cap (List.replicate n 1) m n) L bs k)<=cap.getD i 0:=hS.row i hi;rw [Du.sm_congr n (λ k => wt f (l.getD k (0,0)) i * _) _ λ k hk => by rw [zeo _ hk,<- eA i k hi hk]];exact h1
 ·have hk:k < n:=by rw [<- W.ln]; exact zdu hq
  have h1:(zbc (wA f l m) cap (List.replicate n 1) m n).C k<=Du.sm m (λ i => (zbc (wA f l m) cap (List.replicate n 1) m n).A i k * L m (n + i)):=hP.col k hk;rw [eC k hk] at h1;rw [Du.sm_congr m (λ i => wt f q i * _) _ λ i hi => by rw [zeo _ hi,show wt f q i=(zbc (wA f l m) cap (List.replicate n 1) m n).A i k by rw [eA i k hi hk,List.getD_eq_getElem?_getD,hq]; rfl]];exact h1
 ·rw [Du.sm_congr m (λ i => cap.getD i 0 * _) _ λ i hi => by rw [zeo _ hi]];exact v2
 ·exact (zmp (m:=m) (f:=λ t => L t (n + m)) (bs:=bs) (v:=k) λ t ht => hden t (by omega) (n + m) nl).mono hm1
theorem znQ.bal (h:znQ l f cap m n M val X Y):Bal l f cap m n M (1 / val) (X.map (· * (1 / val))) (Y.map (· * (1 / val))):=by
 have hv0:val ≠ 0:=λ e => by have:=h.vp; rw [e] at this; exact Rat.lt_irrefl this
 have hvl:val * (1 / val)=1:=by rw [Rat.mul_comm,Rat.div_mul_cancel hv0]
 have hl:0 < 1 / val:=Rat.lt_of_le_of_ne (Sx.div_nonneg' (by decide) h.vp) λ e => by rw [<- e,Rat.mul_zero] at hvl; exact absurd hvl (by decide)
 have hpos:∀ {l:List Rat},(∀ x∈l,0<=x)->∀ x∈l.map (· * (1 / val)),0<=x:=λ hx x hm => by
  obtain ⟨y,hy,rfl⟩:=List.mem_map.1 hm;exact Rat.mul_nonneg (hx y hy) (Rat.le_of_lt hl)
 have hsm:∀ (n:Nat) (g:Nat->Rat) (l:List Rat),Du.sm n (λ k => g k * (l.map (· * (1 / val))).getD k 0)=Du.sm n (λ k => g k * l.getD k 0) * (1 / val):=λ n g l => by
  rw [<- Sx.sm_mulr];exact Du.sm_congr _ _ _ λ k _ => by rw [zcD,Rat.mul_assoc]
 refine ⟨by rw [List.length_map,h.lX],by rw [List.length_map,h.lY],hpos h.pX,hpos h.pY,hl,?_,λ i hi => ?_,λ k q hq => ?_,?_,?_⟩
 ·have e:Du.sm n (λ k => (X.map (· * (1 / val))).getD k 0)=Du.sm n (λ k => X.getD k 0) * (1 / val):=by
   rw [<- Sx.sm_mulr];exact Du.sm_congr _ _ _ λ k _ => zcD X _ k
  rw [e,h.v1,hvl]
 ·rw [hsm];exact Rat.mul_le_mul_of_nonneg_right (h.row i hi) (Rat.le_of_lt hl)
 ·rw [hsm];have:=Rat.mul_le_mul_of_nonneg_right (h.col k q hq) (Rat.le_of_lt hl)
  rwa [Rat.one_mul] at this
 ·rw [hsm,h.v2,hvl]
 ·obtain ⟨D,hD,hDM,⟨z,hz,hzM⟩,hX,hY⟩:=h.den;have hd0:(D:Rat) ≠ 0:=λ e => hD (by have:=congrArg Rat.num e; simpa using this)
  have key:∀ x:Rat,x * (1 / val) * (z:Rat)=x * (D:Rat):=λ x => by
   rw [<- hz,Rat.mul_assoc,<- Rat.mul_assoc (1 / val),Rat.mul_comm (1 / val),hvl,Rat.one_mul]
  have hw:∀ {l:List Rat},(∀ x∈l,Sx.Wh (x * (D:Rat)) M)->∀ x∈l.map (· * (1 / val)),Sx.Wh (x * (z:Rat)) M:=λ hx x hm => by
   obtain ⟨y,hy,rfl⟩:=List.mem_map.1 hm;rw [key]; exact hx y hy
  refine ⟨z,λ e => ?_,hzM,⟨D,?_,hDM⟩,hw hX,hw hY⟩
  ·rw [e] at hz;rcases Rat.mul_eq_zero.1 hz with h1 | h1
   ·exact hv0 h1
   ·exact hd0 h1
  ·have:=key 1
   rwa [Rat.one_mul,Rat.one_mul] at this
def tS (f:Rat) (sh:List ((Nat × Nat) × Rat)) (i:Nat):Rat:=zbM (sh.map λ s => s.2 * wt f s.1 i)
def mxS (f:Rat) (cap:List Rat) (sh:List ((Nat × Nat) × Rat)):Nat->Rat
 | 0 => 0
 | i + 1 => if mxS f cap sh i < tS f sh i / cap.getD i 0 then tS f sh i / cap.getD i 0 else mxS f cap sh i
theorem zj5 (f:Rat) (cap:List Rat) (sh:List ((Nat × Nat) × Rat)) (i:Nat):mxS f cap sh i<=mxS f cap sh (i + 1):=by
 simp only [mxS]
 split
 ·next h => exact Rat.le_of_lt h
 ·exact Rat.le_refl
theorem zkN (f:Rat) (cap:List Rat) (sh:List ((Nat × Nat) × Rat)) (i:Nat):∀ k,mxS f cap sh i<=mxS f cap sh (i + k)
 | 0 => Rat.le_refl
 | k + 1 => Rat.le_trans (zkN f cap sh i k) (zj5 f cap sh (i + k))
theorem zmM {f:Rat} {cap:List Rat} {sh:List ((Nat × Nat) × Rat)} {i m:Nat} (hi:i < m):tS f sh i / cap.getD i 0<=mxS f cap sh m:=by
 have h1:=zkN f cap sh (i + 1) (m - (i + 1));rw [show i + 1 + (m - (i + 1))=m by omega] at h1;refine Rat.le_trans ?_ h1;simp only [mxS]
 split
 ·exact Rat.le_refl
 ·next h => exact Rat.not_lt.1 h
theorem zkL {f:Rat} {cap:List Rat} {sh:List ((Nat × Nat) × Rat)} {t:Rat} (h0:0<=t):∀ m,(∀ i,i < m->tS f sh i / cap.getD i 0<=t)->mxS f cap sh m<=t
 | 0,_ => h0
 | m + 1,h => by
  simp only [mxS]
  split
  ·exact h m (by omega)
  ·exact zkL h0 m λ i hi => h i (by omega)
theorem Bal.le (B:Bal l f cap m n M ld P Q) {sh:List ((Nat × Nat) × Rat)} (hl:∀ s∈sh,s.1∈l) (hp:∀ s∈sh,0<=s.2) (h1:zbM (sh.map (·.2))=1) {t:Rat} (ht:∀ i,i < m->tS f sh i<=cap.getD i 0 * t):ld<=t:=by
 let q:Nat->Nat × Nat:=λ j => (sh.getD j ((0,0),0)).1
 let x:Nat->Rat:=λ j => (sh.getD j ((0,0),0)).2
 have hg:∀ (j:Nat) (s:(Nat × Nat) × Rat),sh[j]?=some s->sh.getD j ((0,0),0)=s:=λ j s h => by rw [List.getD_eq_getElem?_getD,h]; rfl
 have e1:Du.sm sh.length x=1:=by
  rw [<- h1]; exact (zbL sh _ x λ j s h => by show (sh.getD j ((0,0),0)).2=_; rw [hg j s h]).symm
 have e2:∀ i,tS f sh i=Du.sm sh.length (λ j => wt f (q j) i * x j):=λ i => zbL sh _ _ λ j s h => by
  show wt f (sh.getD j ((0,0),0)).1 i * (sh.getD j ((0,0),0)).2=_
  rw [hg j s h,Rat.mul_comm]
 have hQ:∀ i,i < m->0<=Q.getD i 0:=λ i hi => by
  have hi':i < Q.length:=by rw [B.lQ]; exact hi
  rw [List.getD_eq_getElem?_getD,gE hi'];exact B.pQ _ (List.getElem_mem hi')
 have hsw:=Du.sm_swap m sh.length (λ i => Q.getD i 0) x (λ i j => wt f (q j) i);have h2:Du.sm m (λ i => Q.getD i 0 * Du.sm sh.length (λ j => wt f (q j) i * x j))<=t:=by
  have h3:Du.sm m (λ i => Q.getD i 0 * Du.sm sh.length (λ j => wt f (q j) i * x j))<=Du.sm m (λ i => cap.getD i 0 * Q.getD i 0 * t):=Du.sm_le _ _ _ λ i hi => by
   rw [<- e2];have:=Rat.mul_le_mul_of_nonneg_left (ht i hi) (hQ i hi)
   grind
  rw [Sx.sm_mulr,B.one,Rat.one_mul] at h3;exact h3
 rw [hsw] at h2;refine Rat.le_trans ?_ h2;have h4:Du.sm sh.length (λ j => x j * ld)<=Du.sm sh.length (λ j => x j * Du.sm m (λ i => wt f (q j) i * Q.getD i 0)):=Du.sm_le _ _ _ λ j hj => by
  have hs:=List.getElem_mem hj;have hx:x j=(sh[j]).2:=by show (sh.getD j ((0,0),0)).2=_; rw [hg j _ (gE hj)]
  have hq:q j=(sh[j]).1:=by show (sh.getD j ((0,0),0)).1=_; rw [hg j _ (gE hj)]
  rw [hx,hq];obtain ⟨k,hk⟩:=List.getElem?_of_mem (hl _ hs);exact Rat.mul_le_mul_of_nonneg_left (B.col k _ hk) (hp _ hs)
 rw [Sx.sm_mulr,e1,Rat.one_mul] at h4;exact h4
theorem div_le_iff' {a c t:Rat} (hc:0 < c):a / c<=t↔a<=c * t:=by
 have hc0:c ≠ 0:=λ e => by rw [e] at hc; exact Rat.lt_irrefl hc
 constructor
 ·intro h;have:=Rat.mul_le_mul_of_nonneg_right h (Rat.le_of_lt hc);rw [Rat.div_mul_cancel hc0] at this;rw [Rat.mul_comm]; exact this
 ·intro h;refine Rat.not_lt.1 λ h' => ?_
  have:=Rat.mul_lt_mul_of_pos_right h' hc;rw [Rat.div_mul_cancel hc0,Rat.mul_comm] at this;exact absurd h (Rat.not_le.2 this)
def shs:List (Nat × Nat)->List Rat->List ((Nat × Nat) × Rat)
 | q :: l,x :: P => if 0 < x then (q,x) :: shs l P else shs l P
 | _,_ => []
theorem zgv:∀ (l:List (Nat × Nat)) (P:List Rat) (q:Nat × Nat) (x:Rat),l.length=P.length->shs (l ++ [q]) (P ++ [x])=shs l P ++ (if 0 < x then [(q,x)] else [])
 | [],[],q,x,_ => by simp only [List.nil_append,shs]
 | a :: l,b :: P,q,x,h => by
  simp only [List.cons_append,shs,zgv l P q x (by simpa using h)]
  split <;> simp
theorem zbm:∀ {l:List (Nat × Nat)} {P:List Rat} {s:(Nat × Nat) × Rat},s∈shs l P->s.1∈l/\s.2∈P/\0 < s.2
 | q :: l,x :: P,s,h => by
  simp only [shs] at h
  split at h
  ·next hx =>
   rcases List.mem_cons.1 h with rfl | h
   ·exact ⟨by simp,by simp,hx⟩
   ·have:=zbm h;exact ⟨by simp [this.1],by simp [this.2.1],this.2.2⟩
  ·have:=zbm h;exact ⟨by simp [this.1],by simp [this.2.1],this.2.2⟩
theorem zh5 (g:Nat × Nat->Rat):∀ (l:List (Nat × Nat)) (P:List Rat),l.length=P.length->(∀ x∈P,0<=x)->zbM ((shs l P).map λ s => s.2 * g s.1)=Du.sm l.length (λ k => g (l.getD k (0,0)) * P.getD k 0):=by
 intro l P hl hp;have h1:∀ (l:List (Nat × Nat)) (P:List Rat),l.length=P.length->(∀ x∈P,0<=x)->zbM ((shs l P).map λ s => s.2 * g s.1)=zbM ((l.zip P).map λ s => s.2 * g s.1):=by
  intro l
  induction l with
  | nil => intro P _ _; cases P <;> rfl
  | cons q l ih =>
   intro P hl hp
   cases P with
   | nil => cases hl
   | cons x P =>
    have ih:=ih P (by simpa using hl) λ y hy => hp y (by simp [hy])
    have hx:=hp x (by simp);simp only [shs,List.zip_cons_cons,List.map_cons,zbM]
    split
    ·simp only [List.map_cons,zbM,ih]
    ·next h0 =>
     have e:x=0:=Rat.le_antisymm (Rat.not_lt.1 h0) hx;rw [ih,e]; grind
 rw [h1 l P hl hp,zbL (l.zip P) _ (λ k => g (l.getD k (0,0)) * P.getD k 0) λ k s hs => ?_]
 ·rw [List.length_zip,<- hl,Nat.min_self]
 ·rw [List.getElem?_zip_eq_some] at hs;rw [List.getD_eq_getElem?_getD,hs.1,List.getD_eq_getElem?_getD,hs.2]
  show g s.1 * s.2=s.2 * g s.1
  exact Rat.mul_comm _ _
theorem Bal.tS_eq (B:Bal l f cap m n M ld P Q) (hl:l.length=n) (i:Nat):tS f (shs l P) i=Du.sm n (λ k => wt f (l.getD k (0,0)) i * P.getD k 0):=by
 have:=zh5 (λ q => wt f q i) l P (by rw [hl,B.lP]) B.pP;rw [hl] at this;exact this
theorem Bal.total (B:Bal l f cap m n M ld P Q) (hl:l.length=n):zbM ((shs l P).map (·.2))=1:=by
 have:=zh5 (λ _ => 1) l P (by rw [hl,B.lP]) B.pP;have e:((shs l P).map λ s => s.2 * (1:Rat))=(shs l P).map (·.2):=List.map_congr_left λ s _ => Rat.mul_one _
 rw [e] at this;rw [this,hl,Du.sm_congr n _ (λ k => P.getD k 0) λ k _ => Rat.one_mul _,B.sum]
theorem Bal.load (B:Bal l f cap m n M ld P Q) (hl:l.length=n) (hc:cap.length=m) (hpc:∀ c∈cap,0 < c):mxS f cap (shs l P) m=ld:=by
 have hcp:∀ i,i < m->0 < cap.getD i 0:=λ i hi => by
  have hi':i < cap.length:=by rw [hc]; exact hi
  rw [List.getD_eq_getElem?_getD,gE hi'];exact hpc _ (List.getElem_mem hi')
 refine Rat.le_antisymm (zkL (Rat.le_of_lt B.pl) m λ i hi => ?_) (B.le (λ s hs => (zbm hs).1) (λ s hs => Rat.le_of_lt (zbm hs).2.2) (B.total hl) λ i hi => ?_)
 ·rw [div_le_iff' (hcp i hi),B.tS_eq hl]; exact B.row i hi
 ·exact (div_le_iff' (hcp i hi)).1 (zmM hi)
end
end Go.Proofs.YtfgffkmddanjjaaGreatDoor
