/-
  The reference of chapter 13: sums of products, comparisons, a column.
-/
import Derived.Test.YtfgffkmddanjjaaGreatDoorSxD
import Derived.Test.YtfgffkmddanjjaaGreatDoorFlowX
import Derived.Test.YtfgffkmddanjjaaGreatDoorSi
import Derived.Test.YtfgffkmddanjjaaGreatDoorSk
set_option linter.unusedVariables false
set_option linter.unusedSimpArgs false
namespace Go.Proofs.YtfgffkmddanjjaaGreatDoor
open Go.RowKit
def fitsB (A:List (List Rat)) (b x:List Rat):Bool:=x.all (λ r => !negR r) && (List.range A.length).all λ i => decide (Du.dotR (A.getD i []) x<=b.getD i 0)
section
variable {A : List (List Rat)} {b x a : List Rat} {k : Nat} {r bi : Rat}
end
def ColV (w:World) (l:List Rat) (v:Value):Prop:=∃ ao cap,v=.slice ao l.length cap/\UQ w ao (l.map some)
theorem ColV.mono {w w':World} {l:List Rat} {v:Value} (h:ColV w l v) (hb:BH w w'):ColV w' l v:=by
 obtain ⟨ao,cap,e,hU⟩:=h;exact ⟨ao,cap,e,hU.mono hb⟩
def UJ (w:World) (ao:Option Addr) (l:List (Int × Int)):Prop:=∀ (k:Nat) (p:Int × Int),l[k]?=some p->∃ b off J1 ao1 n1 Y1 K1 ap1 m1 Z1,ao=some ⟨b,off,none⟩/\Four w b (off + k * 4) (.bool J1) (.slice ao1 n1 Y1) (.bool K1) (.slice ap1 m1 Z1)/\IntV w (.agg #[.bool J1,.slice ao1 n1 Y1]) p.1/\IntV w (.agg #[.bool K1,.slice ap1 m1 Z1]) p.2
theorem UJ.mono {w w':World} {ao:Option Addr} {l:List (Int × Int)} (h:UJ w ao l) (hb:BH w w'):UJ w' ao l:=by
 intro k p hk;obtain ⟨b,off,J1,ao1,n1,Y1,K1,ap1,m1,Z1,e,F,h1,h2⟩:=h k p hk;exact ⟨b,off,J1,ao1,n1,Y1,K1,ap1,m1,Z1,e,F.mono hb,h1.mono hb,h2.mono hb⟩
theorem UJ.of {w:World} {ao:Option Addr} {l:List Rat} (h:UQ w ao (l.map some)):UJ w ao (l.map λ r => (r.num,(r.den:Int))):=by
 intro k p hk;rw [List.getElem?_map] at hk
 cases hr:l[k]? with
 | none => rw [hr] at hk; cases hk
 | some r =>
  rw [hr] at hk
  cases hk
  obtain ⟨b1,off1,J1,ao1,n1,Y1,K1,ap1,m1,Z1,e1,FA,hv⟩:=h k (some r) (by rw [List.getElem?_map,hr]; rfl);obtain ⟨_,_,_,_,_,_,_,_,e2,hv1,hv2⟩:=(hv:RatV w _ r)
  cases e2
  exact ⟨b1,off1,J1,ao1,n1,Y1,K1,ap1,m1,Z1,e1,FA,hv1,hv2⟩
section
variable {ops : Array Oper} {rest : List Oper} {o : Oper} {a : Act} {Q : Exit → Act → World → Prop}
end
def Iz (w:World) (ao:Option Addr) (l:List Int):Prop:=∀ (k:Nat) (z:Int),l[k]?=some z->∃ b off,ao=some ⟨b,off,none⟩/\w.cell? ⟨b,off + k,none⟩=some (.int .i64 z)
theorem Iz.mono {w w':World} {ao:Option Addr} {l:List Int} (h:Iz w ao l) (hb:BH w w'):Iz w' ao l:=λ k z hk => by
 obtain ⟨b,off,e,hc⟩:=h k z hk;exact ⟨b,off,e,(hb.cell (cell_lt hc)).trans hc⟩
def FO (B:Nat) (l:List Qo) (G:Nat->Prop) (W:World) (v:Value):Prop:=(∃ a n c,v=.slice a n c)/\OwnO W B v l/\∀ k,v.ownBlock=some k->¬ G k
theorem FO.stay {B:Nat} {l:List Qo} {G G':Nat->Prop} {W W':World} {v:Value} (h:FO B l G W v) (hk:Kept G W W') (hn:NoG G W) (hg:∀ b,b < W.heap.size->G' b->G b):FO B l G' W' v :=
 ⟨h.1,h.2.1.kept hk hn h.2.2,λ k e hh => h.2.2 k e (hg k (h.2.1.lt k e).2 hh)⟩
structure OW (W:World) (B0 B g:Nat) (vA vB vC:Value) (ow:List (Value × List Qo)) (b C:List Qo):Prop where
 t:TG W B g vA (.slice none 0 0) [] ow
 r:Row W g 105 [vA,vB,vC]
 oB:OwnO W B0 vB b
 oC:OwnO W B0 vC C
 lB:∀ k,vB.ownBlock=some k->k < B/\k ≠ g
 lC:∀ k,vC.ownBlock=some k->k < B/\k ≠ g
 sep:Sep vB vC
 gl:g < B
 sz:B<=W.heap.size
theorem OW.mono {W W':World} {B0 B g:Nat} {vA vB vC:Value} {ow:List (Value × List Qo)} {b C:List Qo} (h:OW W B0 B g vA vB vC ow b C) (hb:BH W W'):OW W' B0 B g vA vB vC ow b C :=
 ⟨h.t.mono hb,h.r.below hb,h.oB.mono hb,h.oC.mono hb,h.lB,h.lC,h.sep,h.gl,Nat.le_trans h.sz hb.size⟩
def OwnP (B0:Nat) (w':World) (A:List (List Qo)) (b C:List Qo) (e:Ending):Prop :=
 ∃ vA vB vC B g ow,e=.returned (.agg #[vA,vB,vC])/\OW w' B0 B g vA vB vC ow b C/\ow.map (·.2)=A/\B0<=B
def szM (K m:Nat):Nat:=m * (Sx.dz K m * K) + (Sx.dz K m * K + Sx.dz K m)
def szE (K m:Nat):Nat:=m * szM K m + szM K m
structure WP (A:List (List Rat)) (b C:List Rat) (m n K:Nat):Prop where
 lA:A.length=m
 rA:∀ r∈A,r.length=n
 lb:b.length=m
 lC:C.length=n
 wA:∀ r∈A,∀ x∈r,Sx.Wh x K
 wb:∀ x∈b,Sx.Wh x K
 wC:∀ x∈C,Sx.Wh x K
 hK:1<=K/\K<=KK
 hm:1<=m/\m<=8
 hn:1<=n/\n<=8
 pb:∀ x∈b,0<=x
 big:8 * (K * szE K m)<=KK
section
variable {A : List (List Rat)} {b C : List Rat} {m n K : Nat}
theorem WP.bigE (W:WP A b C m n K):szE K m<=KK:=by
 have h1:szE K m<=K * szE K m:=Nat.le_mul_of_pos_left _ W.hK.1;have:=W.big;omega
theorem WP.bigM (W:WP A b C m n K):szM K m<=KK:=by
 have:=W.bigE;unfold szE at this;omega
theorem WP.sz (W:WP A b C m n K):SzD (datL A b C m n) m n (n + m):=datL_sz W.wA W.wb W.wC W.hK.1 W.bigM
theorem WP.den (W:WP A b C m n K) {L:Nat->Nat->Rat} {bs:Nat->Nat} (hF:Sx.Feas (datL A b C m n) L bs) :
  ∃ D:Int,D ≠ 0/\D.natAbs<=Sx.dz K m/\∀ i,i<=m->∀ j,j<=n + m->Sx.Wh (L i j * (D:Rat)) (szM K m):=by
 have hcol:∀ j,j<=(datL A b C m n).w->∀ i,i < (datL A b C m n).m->Sx.Wh ((datL A b C m n).col j i) K:=λ j _ i _ => by
  unfold Sx.Dat.col datL
  show Sx.Wh (if j < n then _ else if j < n + m then _ else _) K
  split
  ·show Sx.Wh ((A.getD i []).getD j 0) K
   rw [List.getD_eq_getElem?_getD (l:=A)]
   cases ha:A[i]? with
   | none => exact getD_wh (l:=[]) (λ x h => by simp at h) j
   | some r => exact getD_wh (W.wA r (List.mem_of_getElem? ha)) j
  ·split
   ·show Sx.Wh (if i=j - n then 1 else 0) K
    split
    ·exact wh_one.mono W.hK.1
    ·exact Sx.wh_zero.mono (Nat.zero_le _)
   ·exact getD_wh W.wb i
 have hcst:∀ j,j<=(datL A b C m n).w->Sx.Wh ((datL A b C m n).cost j) K:=λ j _ => by
  unfold Sx.Dat.cost datL
  show Sx.Wh (if j < n then _ else _) K
  split
  ·exact getD_wh W.wC j
  ·exact Sx.wh_zero.mono (Nat.zero_le _)
 exact hF.inv.size hcol hcst
theorem wh_ifs {D:Int} {M:Nat} {f:Nat->Rat} {bs:Nat->Nat} {v:Nat} (h:∀ t,t < m->Sx.Wh (f t * (D:Rat)) M):Sx.Wh (Du.sm m (λ t => if bs t=v then f t else 0) * (D:Rat)) (m * M):=by
 rw [<- Sx.sm_mulr];refine Sx.wh_sm M m _ λ t ht => ?_
 split
 ·exact h t ht
 ·rw [Rat.zero_mul]; exact Sx.wh_zero.mono (Nat.zero_le _)
theorem wh_whole {x:Rat} {K:Nat} (h:Sx.Wh x K) (hK:K<=KK):Kb 1 x:=by
 have:=wh_bd (D:=1) (M:=1) (by decide) (by simpa using h) (by decide);unfold Kb;rw [Nat.pow_one];exact ⟨Nat.le_trans this.1 hK,Nat.le_trans this.2 (Nat.le_of_lt kk_one)⟩
theorem wh_kb {x:Rat} {D:Int} {N:Nat} (hD:D ≠ 0) (hDz:D.natAbs<=KK) (h:Sx.Wh (x * (D:Rat)) N) (hN:N<=KK):Kb 1 x:=by
 have:=wh_bd hD h hDz;unfold Kb;rw [Nat.pow_one];exact ⟨Nat.le_trans this.1 hN,this.2⟩
theorem Kb.addS {i j:Nat} {a b:Rat} (h:Kb i a) (g:Kb j b) (hij:i + j + 1 < 12):AddS a b:=by
 refine ⟨h.crS g (by omega),sm_kk hij ?_,sm_kk (n:=i + j) (by omega) (by rw [<- kk_add]; exact Rq.bd_dd h g)⟩;have h1:=Rq.bd_x h g;have h2:=Rq.bd_x g h;rw [kk_add] at h1 h2;have:=kk_two (i + j);rw [Nat.add_comm j i] at h2;omega
theorem mem_rng {f:Nat->Rat} {n:Nat} {p:Rat->Prop} (h:∀ k,k < n->p (f k)):∀ r∈(List.range n).map f,p r:=by
 intro r hr;obtain ⟨k,hk,rfl⟩:=List.mem_map.1 hr;exact h k (List.mem_range.1 hk)
theorem rng_get (f:Nat->Rat) {n k:Nat} (h:k < n):((List.range n).map f).getD k 0=f k:=by
 rw [List.getD_eq_getElem?_getD,List.getElem?_map,List.getElem?_range h]; rfl
theorem lt_of_get {α:Type} {l:List α} {k:Nat} {x:α} (h:l[k]?=some x):k < l.length:=by
 rcases Nat.lt_or_ge k l.length with h2 | h2
 ·exact h2
 ·rw [List.getElem?_eq_none h2] at h; cases h
structure OptL (A:List (List Rat)) (b C:List Rat) (m n:Nat) (val:Rat) (X Y:List Rat):Prop where
 lX:X.length=n
 lY:Y.length=m
 pY:∀ r∈Y,negR r=false
 col:∀ (k:Nat) (c:Rat),C[k]?=some c->∃ s,DotS 0 (colR A k) Y (some s)/\CrS s c/\c<=s
 row:∀ (k:Nat) (a:List Rat) (bi:Rat),A[k]?=some a->b[k]?=some bi->∃ s,DotS 0 a X (some s)/\CrS s bi
 fit:fitsB A b X=true
 v1:∃ s,DotS 0 C X (some s)/\CrS s val/\s=val
 v2:∃ s,DotS 0 b Y (some s)/\CrS s val/\s=val
structure RayL (A:List (List Rat)) (C:List Rat) (n:Nat) (X:List Rat):Prop where
 lX:X.length=n
 pX:∀ r∈X,negR r=false
 row:∀ a∈A,∃ s,DotS 0 a X (some s)/\s.num<=0
 val:∃ s,DotS 0 C X (some s)/\0 < s.num
end
theorem nd20 {n:Nat} (h:n<=1000000):Lib.nDigits n<=20:=by
 by_cases h0:n=0
 ·rw [h0,Lib.nDigits_small (by decide)]; decide
 ·exact (Bi.nd_le h0).2 (by omega)
theorem short_wh {x:Rat} {K:Nat} (h:Sx.Wh x K) (hK:K<=1000000):shortB x=true:=by
 obtain ⟨z,rfl,hz⟩:=h;unfold shortB;rw [Rat.num_intCast,Rat.den_intCast,Lib.decDigits_length,Lib.decDigits_length];have h1:Lib.nDigits z.natAbs<=20:=nd20 (by omega);have h2:Lib.nDigits 1<=20:=nd20 (by omega);simp [h1,h2]
section
variable {A : List (List Rat)} {b C : List Rat} {m n K : Nat}
theorem WP.err (W:WP A b C m n K) (hK:K<=1000000):Prg.err ⟨A.map (·.map some),b.map some,C.map some⟩=0:=by
 have hm:=W.hm;have hn:=W.hn;have hsome:∀ x∈Prg.all ⟨A.map (·.map some),b.map some,C.map some⟩,∃ r,x=some r/\Sx.Wh r K:=by
  intro x hx;unfold Prg.all at hx;simp only [List.mem_append,List.mem_flatten,List.mem_map] at hx;rcases hx with (⟨l,⟨a,ha,rfl⟩,hx⟩ | ⟨r,hr,rfl⟩) | ⟨r,hr,rfl⟩
  ·obtain ⟨r,hr,rfl⟩:=List.mem_map.1 hx;exact ⟨r,rfl,W.wA a ha r hr⟩
  ·exact ⟨r,rfl,W.wb r hr⟩
  ·exact ⟨r,rfl,W.wC r hr⟩
 have hnum:numErr (Prg.all ⟨A.map (·.map some),b.map some,C.map some⟩)=0:=by
  refine numErr_ok (λ x hx => ?_) λ x hx => ?_
  ·obtain ⟨r,rfl,_⟩:=hsome x hx; rfl
  ·obtain ⟨r,rfl,hr⟩:=hsome x hx;simp [longO,short_wh hr hK]
 unfold Prg.err;rw [if_neg (by simp only [List.length_map,W.lA,W.lb,W.lC]; omega),if_neg (by
  rw [Bool.not_eq_true,List.any_eq_false];intro r hr;obtain ⟨a,ha,rfl⟩:=List.mem_map.1 hr;simp [W.rA a ha,W.lC]),if_neg (by rw [hnum]; simp),if_neg]
 rw [Bool.not_eq_true];unfold negQ;rw [List.any_eq_false];intro x hx;obtain ⟨r,hr,rfl⟩:=List.mem_map.1 hx;have:=Rat.num_nonneg.2 (W.pb r hr);simp only [negO,decide_eq_true_eq];omega
theorem unb_nopri {Z:List Rat} {y:Nat->Rat} (g:UnbX A b C m n Z) (hp:Du.Pri m n (datL A b C m n).A (datL A b C m n).C y):False:=by
 obtain ⟨M,cs,k,gF,hk,hn,hc,_⟩:=g;refine Du.ray_none (m:=m) (n:=n) (A:=(datL A b C m n).A) (c:=(datL A b C m n).C) (x:=Sx.rayv (datL A b C m n) M cs k) (y:=y) (λ k' _ => Sx.ray_nonneg hc k') (λ i hi => ?_) ?_ hp
 ·have h1:=Sx.ray_row gF.inv hk hi;have h2:=Sx.ray_nonneg (d:=datL A b C m n) (B:=cs) (k:=k) (T:=M) hc ((datL A b C m n).n + i);have h3:Du.sm n (λ k_1 => (datL A b C m n).A i k_1 * Sx.rayv (datL A b C m n) M cs k k_1) + Sx.rayv (datL A b C m n) M cs k ((datL A b C m n).n + i)=0:=h1
  grind
 ·have h1:=Sx.ray_val gF.inv hk;have h3:Du.sm n (λ v => (datL A b C m n).C v * Sx.rayv (datL A b C m n) M cs k v)=- M m k:=h1;rw [h3]
  grind
end
theorem OW.um {W:World} {B0 B g:Nat} {vA vB vC:Value} {ow:List (Value × List Qo)} {b C:List Qo} (h:OW W B0 B g vA vB vC ow b C):∃ ao cap,vA=.slice ao (ow.map (·.2)).length cap/\UM W ao (ow.map (·.2)):=by
 refine OwnS.um h.t.oA.1 ⟨by simp,λ i row hi => ?_⟩;rw [List.getElem?_map] at hi
 cases hp:ow[i]? with
 | none => rw [hp] at hi; cases hi
 | some p =>
  rw [hp] at hi
  cases hi
  obtain ⟨ar,cr,e,hu⟩:=(h.t.o p (List.mem_of_getElem? hp)).1.read;exact ⟨ar,cr,by rw [List.getElem?_map,hp,<- e]; rfl,hu⟩
theorem OwnP.prg {B0:Nat} {w':World} {A:List (List Qo)} {b C:List Qo} {e:Ending} (h:OwnP B0 w' A b C e):∃ aA cA aB cB aC cC,e=.returned (.agg #[.slice aA A.length cA,.slice aB b.length cB,.slice aC C.length cC])/\UM w' aA A/\UQ w' aB b/\UQ w' aC C:=by
 obtain ⟨vA,vB,vC,B,g,ow,rfl,hO,rfl,_⟩:=h;obtain ⟨aA,cA,rfl,uA⟩:=hO.um;obtain ⟨aB,cB,rfl,uB⟩:=hO.oB.read;obtain ⟨aC,cC,rfl,uC⟩:=hO.oC.read;exact ⟨aA,cA,aB,cB,aC,cC,rfl,uA,uB,uC⟩
def IsOpt (d:Sx.Dat) (v:Rat):Prop:=(∃ x,Du.Sol d.m d.n d.A d.b x/\Du.sm d.n (λ k => d.C k * x k)=v)/\∃ y,Du.Pri d.m d.n d.A d.C y/\Du.sm d.m (λ i => d.b i * y i)=v
structure RayD (d:Sx.Dat) (x:Nat->Rat):Prop where
 pos:∀ k,k < d.n->0<=x k
 row:∀ i,i < d.m->Du.sm d.n (λ k => d.A i k * x k)<=0
 val:0 < Du.sm d.n (λ k => d.C k * x k)
structure MapD (d e:Sx.Dat) (f:Rat) (φ:(Nat->Rat)->Nat->Rat):Prop where
 f0:0 < f
 pos:∀ x,(∀ k,k < d.n->0<=x k)->∀ k,k < e.n->0<=φ x k
 sol:∀ x,(∀ i,i < d.m->Du.sm d.n (λ k => d.A i k * x k)<=d.b i)->∀ i,i < e.m->Du.sm e.n (λ k => e.A i k * φ x k)<=e.b i
 ray:∀ x,(∀ i,i < d.m->Du.sm d.n (λ k => d.A i k * x k)<=0)->∀ i,i < e.m->Du.sm e.n (λ k => e.A i k * φ x k)<=0
 val:∀ x,Du.sm e.n (λ k => e.C k * φ x k)=f * Du.sm d.n (λ k => d.C k * x k)
section
variable {d e : Sx.Dat} {f g u v : Rat} {φ ψ : (Nat → Rat) → Nat → Rat}
theorem IsOpt.ray (h:IsOpt d v) {x:Nat->Rat} (r:RayD d x):False:=by
 obtain ⟨_,y,hy,_⟩:=h;exact Du.ray_none r.pos r.row r.val hy
theorem MapD.le (h:MapD d e f φ) (hd:IsOpt d v) (he:IsOpt e u):f * v<=u:=by
 obtain ⟨⟨x,hx,hv⟩,_⟩:=hd;obtain ⟨_,y,hy,hu⟩:=he;have:=Du.weak ⟨h.pos x hx.pos,h.sol x hx.row⟩ hy;rw [h.val,hv,hu] at this
 grind
theorem MapD.eq (h:MapD d e f φ) (h':MapD e d g ψ) (hfg:f * g=1) (hd:IsOpt d v) (he:IsOpt e u):u=f * v:=by
 refine Rat.le_antisymm ?_ (h.le hd he);have h1:=h'.le he hd;have h2:f * (g * u)<=f * v:=Rat.mul_le_mul_of_nonneg_left h1 (Rat.le_of_lt h.f0);rw [<- Rat.mul_assoc,hfg,Rat.one_mul] at h2;exact h2
end
section
variable {A : List (List Rat)} {b C : List Rat} {m n : Nat}
end
end Go.Proofs.YtfgffkmddanjjaaGreatDoor
