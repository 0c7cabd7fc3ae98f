/-
  The reference of chapter 13: sums of products, comparisons, a column.
-/
import Derived.Test.YtfgffkmddanjjaaGreatDoorSxD
import Derived.Test.YtfgffkmddanjjaaGreatDoorFlowX
import Derived.Test.YtfgffkmddanjjaaGreatDoorSi
import Derived.Test.YtfgffkmddanjjaaGreatDoorSk
set_option linter.unusedVariables false
set_option linter.unusedSimpArgs false
namespace Go.Proofs.YtfgffkmddanjjaaGreatDoor
open Go.RowKit
def znI (A:List (List Rat)) (b x:List Rat):Bool:=x.all (λ r => !zlu r) && (List.range A.length).all λ i => decide (Du.dotR (A.getD i []) x<=b.getD i 0)
def znU (w:World) (l:List Rat) (v:Value):Prop:=∃ ao cap,v=.slice ao l.length cap/\UQ w ao (l.map some)
theorem znU.mono {w w':World} {l:List Rat} {v:Value} (h:znU w l v) (hb:BH w w'):znU w' l v:=by
 obtain ⟨ao,cap,e,hU⟩:=h;exact ⟨ao,cap,e,hU.mono hb⟩
def UJ (w:World) (ao:Option Addr) (l:List (Int × Int)):Prop:=∀ (k:Nat) (p:Int × Int),l[k]?=some p->∃ b off J1 ao1 n1 Y1 K1 ap1 m1 Z1,ao=some ⟨b,off,none⟩/\zeP w b (off + k * 4) (.bool J1) (.slice ao1 n1 Y1) (.bool K1) (.slice ap1 m1 Z1)/\zai w (.agg #[.bool J1,.slice ao1 n1 Y1]) p.1/\zai w (.agg #[.bool K1,.slice ap1 m1 Z1]) p.2
theorem UJ.mono {w w':World} {ao:Option Addr} {l:List (Int × Int)} (h:UJ w ao l) (hb:BH w w'):UJ w' ao l:=by
 intro k p hk;obtain ⟨b,off,J1,ao1,n1,Y1,K1,ap1,m1,Z1,e,F,h1,h2⟩:=h k p hk;exact ⟨b,off,J1,ao1,n1,Y1,K1,ap1,m1,Z1,e,F.mono hb,h1.mono hb,h2.mono hb⟩
def Iz (w:World) (ao:Option Addr) (l:List Int):Prop:=∀ (k:Nat) (z:Int),l[k]?=some z->∃ b off,ao=some ⟨b,off,none⟩/\w.cell? ⟨b,off + k,none⟩=some (.int .i64 z)
theorem Iz.mono {w w':World} {ao:Option Addr} {l:List Int} (h:Iz w ao l) (hb:BH w w'):Iz w' ao l:=λ k z hk => by
 obtain ⟨b,off,e,hc⟩:=h k z hk;exact ⟨b,off,e,(hb.cell (zag hc)).trans hc⟩
structure OW (W:World) (B0 B g:Nat) (vA vB vC:Value) (ow:List (Value × List Qo)) (b C:List Qo):Prop where
 t:TG W B g vA (.slice none 0 0) [] ow
 r:Row W g 105 [vA,vB,vC]
 oB:zaz W B0 vB b
 oC:zaz W B0 vC C
 lB:∀ k,vB.ownBlock=some k->k < B/\k ≠ g
 lC:∀ k,vC.ownBlock=some k->k < B/\k ≠ g
 sep:Sep vB vC
 gl:g < B
 sz:B<=W.heap.size
theorem OW.mono {W W':World} {B0 B g:Nat} {vA vB vC:Value} {ow:List (Value × List Qo)} {b C:List Qo} (h:OW W B0 B g vA vB vC ow b C) (hb:BH W W'):OW W' B0 B g vA vB vC ow b C :=
 ⟨h.t.mono hb,h.r.below hb,h.oB.mono hb,h.oC.mono hb,h.lB,h.lC,h.sep,h.gl,Nat.le_trans h.sz hb.size⟩
def szM (K m:Nat):Nat:=m * (Sx.dz K m * K) + (Sx.dz K m * K + Sx.dz K m)
def szE (K m:Nat):Nat:=m * szM K m + szM K m
structure WP (A:List (List Rat)) (b C:List Rat) (m n K:Nat):Prop where
 lA:A.length=m
 rA:∀ r∈A,r.length=n
 lb:b.length=m
 lC:C.length=n
 wA:∀ r∈A,∀ x∈r,Sx.Wh x K
 wb:∀ x∈b,Sx.Wh x K
 wC:∀ x∈C,Sx.Wh x K
 hK:1<=K/\K<=KK
 hm:1<=m/\m<=8
 hn:1<=n/\n<=8
 pb:∀ x∈b,0<=x
 big:8 * (K * szE K m)<=KK
section
variable {A : List (List Rat)} {b C : List Rat} {m n K : Nat}
theorem zmp {D:Int} {M:Nat} {f:Nat->Rat} {bs:Nat->Nat} {v:Nat} (h:∀ t,t < m->Sx.Wh (f t * (D:Rat)) M):Sx.Wh (Du.sm m (λ t => if bs t=v then f t else 0) * (D:Rat)) (m * M):=by
 rw [<- Sx.sm_mulr];refine Sx.wh_sm M m _ λ t ht => ?_
 split
 ·exact h t ht
 ·rw [Rat.zero_mul]; exact Sx.wh_zero.mono (Nat.zero_le _)
theorem zbr {x:Rat} {K:Nat} (h:Sx.Wh x K) (hK:K<=KK):Kb 1 x:=by
 have:=zk2 (D:=1) (M:=1) (by decide) (by simpa using h) (by decide);unfold Kb;rw [Nat.pow_one];exact ⟨Nat.le_trans this.1 hK,Nat.le_trans this.2 (Nat.le_of_lt zgP)⟩
theorem zca {x:Rat} {D:Int} {N:Nat} (hD:D ≠ 0) (hDz:D.natAbs<=KK) (h:Sx.Wh (x * (D:Rat)) N) (hN:N<=KK):Kb 1 x:=by
 have:=zk2 hD h hDz;unfold Kb;rw [Nat.pow_one];exact ⟨Nat.le_trans this.1 hN,this.2⟩
theorem Kb.addS {i j:Nat} {a b:Rat} (h:Kb i a) (g:Kb j b) (hij:i + j + 1 < 12):zeb a b:=by
 refine ⟨h.crS g (by omega),zdK hij ?_,zdK (n:=i + j) (by omega) (by rw [<- zbz]; exact Rq.bd_dd h g)⟩;have h1:=Rq.bd_x h g;have h2:=Rq.bd_x g h;rw [zbz] at h1 h2;have:=zkP (i + j);rw [Nat.add_comm j i] at h2;omega
theorem zez {f:Nat->Rat} {n:Nat} {p:Rat->Prop} (h:∀ k,k < n->p (f k)):∀ r∈(List.range n).map f,p r:=by
 intro r hr;obtain ⟨k,hk,rfl⟩:=List.mem_map.1 hr;exact h k (List.mem_range.1 hk)
theorem zeo (f:Nat->Rat) {n k:Nat} (h:k < n):((List.range n).map f).getD k 0=f k:=by
 rw [List.getD_eq_getElem?_getD,List.getElem?_map,List.getElem?_range h]; rfl
theorem zdu {α:Type} {l:List α} {k:Nat} {x:α} (h:l[k]?=some x):k < l.length:=by
 rcases Nat.lt_or_ge k l.length with h2 | h2
 ·exact h2
 ·rw [List.getElem?_eq_none h2] at h; cases h
structure OptL (A:List (List Rat)) (b C:List Rat) (m n:Nat) (val:Rat) (X Y:List Rat):Prop where
 lX:X.length=n
 lY:Y.length=m
 pY:∀ r∈Y,zlu r=false
 col:∀ (k:Nat) (c:Rat),C[k]?=some c->∃ s,zhP 0 (zon A k) Y (some s)/\CrS s c/\c<=s
 row:∀ (k:Nat) (a:List Rat) (bi:Rat),A[k]?=some a->b[k]?=some bi->∃ s,zhP 0 a X (some s)/\CrS s bi
 fit:znI A b X=true
 v1:∃ s,zhP 0 C X (some s)/\CrS s val/\s=val
 v2:∃ s,zhP 0 b Y (some s)/\CrS s val/\s=val
structure RayL (A:List (List Rat)) (C:List Rat) (n:Nat) (X:List Rat):Prop where
 lX:X.length=n
 pX:∀ r∈X,zlu r=false
 row:∀ a∈A,∃ s,zhP 0 a X (some s)/\s.num<=0
 val:∃ s,zhP 0 C X (some s)/\0 < s.num
end
theorem znp {n:Nat} (h:n<=1000000):Lib.nDigits n<=20:=by
 by_cases h0:n=0
 ·rw [h0,Lib.nDigits_small (by decide)]; decide
 ·exact (Bi.nd_le h0).2 (by omega)
theorem zjH {x:Rat} {K:Nat} (h:Sx.Wh x K) (hK:K<=1000000):zbX x=true:=by
 obtain ⟨z,rfl,hz⟩:=h;unfold zbX;rw [Rat.num_intCast,Rat.den_intCast,Lib.decDigits_length,Lib.decDigits_length];have h1:Lib.nDigits z.natAbs<=20:=znp (by omega);have h2:Lib.nDigits 1<=20:=znp (by omega);simp [h1,h2]
section
variable {A : List (List Rat)} {b C : List Rat} {m n K : Nat}
theorem zhZ {Z:List Rat} {y:Nat->Rat} (g:znr A b C m n Z) (hp:Du.Pri m n (zbc A b C m n).A (zbc A b C m n).C y):False:=by
 obtain ⟨M,cs,k,gF,hk,hn,hc,_⟩:=g;refine Du.ray_none (m:=m) (n:=n) (A:=(zbc A b C m n).A) (c:=(zbc A b C m n).C) (x:=Sx.rayv (zbc A b C m n) M cs k) (y:=y) (λ k' _ => Sx.ray_nonneg hc k') (λ i hi => ?_) ?_ hp
 ·have h1:=Sx.ray_row gF.inv hk hi;have h2:=Sx.ray_nonneg (d:=zbc A b C m n) (B:=cs) (k:=k) (T:=M) hc ((zbc A b C m n).n + i);have h3:Du.sm n (λ k_1 => (zbc A b C m n).A i k_1 * Sx.rayv (zbc A b C m n) M cs k k_1) + Sx.rayv (zbc A b C m n) M cs k ((zbc A b C m n).n + i)=0:=h1
  grind
 ·have h1:=Sx.ray_val gF.inv hk;have h3:Du.sm n (λ v => (zbc A b C m n).C v * Sx.rayv (zbc A b C m n) M cs k v)=- M m k:=h1;rw [h3]
  grind
end
structure RayD (d:Sx.Dat) (x:Nat->Rat):Prop where
 pos:∀ k,k < d.n->0<=x k
 row:∀ i,i < d.m->Du.sm d.n (λ k => d.A i k * x k)<=0
 val:0 < Du.sm d.n (λ k => d.C k * x k)
structure MapD (d e:Sx.Dat) (f:Rat) (φ:(Nat->Rat)->Nat->Rat):Prop where
 f0:0 < f
 pos:∀ x,(∀ k,k < d.n->0<=x k)->∀ k,k < e.n->0<=φ x k
 sol:∀ x,(∀ i,i < d.m->Du.sm d.n (λ k => d.A i k * x k)<=d.b i)->∀ i,i < e.m->Du.sm e.n (λ k => e.A i k * φ x k)<=e.b i
 ray:∀ x,(∀ i,i < d.m->Du.sm d.n (λ k => d.A i k * x k)<=0)->∀ i,i < e.m->Du.sm e.n (λ k => e.A i k * φ x k)<=0
 val:∀ x,Du.sm e.n (λ k => e.C k * φ x k)=f * Du.sm d.n (λ k => d.C k * x k)
end Go.Proofs.YtfgffkmddanjjaaGreatDoor
