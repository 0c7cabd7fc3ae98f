/-
  make of a slice of fractions.
-/
import Derived.Test.YtfgffkmddanjjaaGreatDoorD5
import Derived.Test.YtfgffkmddanjjaaGreatDoorD1
import Derived.Test.YtfgffkmddanjjaaGreatDoorSe
import Derived.Test.YtfgffkmddanjjaaGreatDoorSi
set_option linter.unusedVariables false
set_option linter.unusedSimpArgs false
namespace Go.Proofs.YtfgffkmddanjjaaGreatDoor
open Go.RowKit
theorem zcx (z:Array Value) (n j:Nat) (h:j < n):(madeCells z n).toList[j]?=some (z[j % z.size]!):=by
 unfold madeCells;simp [h]
theorem zmv (w:World) (n:Nat):MQ (w.alloc (.cells (madeCells #[.bool false,.slice none 0 0,.bool false,.slice none 0 0] (n * 4)) 32)) w.heap.size (List.replicate n none):=by
 refine ⟨(madeCells #[.bool false,.slice none 0 0,.bool false,.slice none 0 0] (n * 4)).toList,?_,?_,?_,?_⟩
 ·have:=heap_alloc_new w (.cells (madeCells #[.bool false,.slice none 0 0,.bool false,.slice none 0 0] (n * 4)) 32)
  simpa [Row] using this
 ·simp [size_madeCells]
 ·intro u hu k z e;obtain ⟨j,hj⟩:=List.getElem?_of_mem hu;have hlt:j < n * 4:=by
   have:=(List.getElem?_eq_some_iff.1 hj).1
   simpa [size_madeCells] using this
  rw [zcx _ _ _ hlt] at hj;have h4:j % 4 < 4:=Nat.mod_lt _ (by decide);simp only [Option.some.injEq] at hj;subst e;simp only [List.size_toArray,List.length_cons,List.length_nil,Nat.zero_add,Nat.reduceAdd] at hj
  match hm:j % 4,h4 with
  | 0,_ => rw [hm] at hj; simp at hj
  | 1,_ => rw [hm] at hj; simp at hj
  | 2,_ => rw [hm] at hj; simp at hj
  | 3,_ => rw [hm] at hj; simp at hj
 ·intro i o hi;rw [List.getElem?_replicate] at hi
  split at hi
  ·next hlt =>
   cases hi
   have e:∀ m,m < 4->(i * 4 + m) % 4=m:=λ m hm => by omega
   refine ⟨false,none,0,0,false,none,0,0,?_,?_,?_,?_,zk4 _⟩
   ·rw [zcx _ _ _ (by omega)]; simp
   ·rw [zcx _ _ _ (by omega)]; simp [e 1 (by omega)]
   ·rw [zcx _ _ _ (by omega)]; simp [e 2 (by omega)]
   ·rw [zcx _ _ _ (by omega)]; simp [e 3 (by omega)]
  ·cases hi
section
variable {ops : Array Oper} {rest : List Oper} {o : Oper} {a : Act} {Q : Exit → Act → World → Prop}
theorem zlb (w:World) (hg:o.guard=none) (l c:Operand) (hop:o.op=Op.makeSlice 33 l c) (n:Nat)
  (hl:a.eval l=.int .i64 n) (hc:a.eval c=.int .i64 n) (hn:n<=1000000)
  (hK:∀ w',MQ w' w.heap.size (List.replicate n none)->BH w w'->wpList Tryz.prog ops Q rest (a.put o.dst (.slice (some ⟨w.heap.size,0,none⟩) n n)) w') :
  wpList Tryz.prog ops Q (o :: rest) a w:=by
 obtain ⟨i0,hi,hz0,hz1,hz2⟩:=info_parts Tryz.info32;have hr:=run_makeSlice (P:=Tryz.prog) w 33 32 i0 (.agg #[.bool false,.slice none 0 0,.bool false,.slice none 0 0]) Tryz.underlying33 hi hz0 .i64 .i64 n n (by omega) (by omega)
  (by rw [hz1]; omega) (by rw [hz2]; omega) (by omega)
 simp only [Int.toNat_natCast] at hr;refine wpList_plain hg λ K hK' => ?_
 unfold Oper.wp;simp [execOp,hop,hl,hc,hr,Result.andThen];refine hK' _ _ (hK _ ?_ (bA _ _));rw [hz1];exact zmv w n
end
def zbc (A:List (List Rat)) (b C:List Rat) (m n:Nat):Sx.Dat:=⟨m,n,λ i k => (A.getD i []).getD k 0,λ i => b.getD i 0,λ k => C.getD k 0⟩
section
variable {A : List (List Rat)} {b C : List Rat} {m n K : Nat}
theorem zkd {l:List Rat} (h:∀ x∈l,0<=x) (i:Nat):0<=l.getD i 0:=by
 rw [List.getD_eq_getElem?_getD]
 cases hl:l[i]? with
 | none => exact Rat.le_refl
 | some x => exact h x (List.mem_of_getElem? hl)
theorem zh1 (hb:∀ x∈b,0<=x):Sx.Feas (zbc A b C m n) (zbW A b C m n) (λ i => n + i):=by
 have e1:∀ t,t < m->∀ j,zbW A b C m n t j=(zbc A b C m n).col j t:=λ t ht j => by
  unfold zbW Sx.Dat.col zbc;rw [if_pos ht]
 refine ⟨Sx.inv_start (d:=zbc A b C m n) (λ t ht j _ => e1 t ht j) (λ j _ => ?_) λ t _ => rfl,λ t ht => ?_⟩
 ·unfold zbW Sx.Dat.cost zbc;rw [if_neg (Nat.lt_irrefl m)]
  show (if j < n then - (C.getD j 0) else 0)=- (if j < n then C.getD j 0 else 0)
  split
  ·rfl
  ·rfl
 ·rw [e1 t ht,Sx.col_right];exact zkd hb t
theorem zgn:Sx.Wh 1 1:=⟨1,rfl,by decide⟩
theorem zlA {l:List Rat} (h:∀ x∈l,Sx.Wh x K) (i:Nat):Sx.Wh (l.getD i 0) K:=by
 rw [List.getD_eq_getElem?_getD]
 cases hl:l[i]? with
 | none => exact Sx.wh_zero.mono (Nat.zero_le _)
 | some x => exact h x (List.mem_of_getElem? hl)
theorem zk2 {x:Rat} {D:Int} {N M:Nat} (hD:D ≠ 0) (h:Sx.Wh (x * (D:Rat)) N) (hM:D.natAbs<=M):Rq.Bd x N M:=by
 obtain ⟨z,hz,hzN⟩:=h;have hd:(D:Rat) ≠ 0:=λ e => hD (by have:=congrArg Rat.num e; simpa using this)
 have e:x=Rat.divInt z D:=by
  rw [Rat.divInt_eq_div,<- hz,Rat.mul_div_cancel hd]
 rw [e];exact Rq.bd_of hD hzN hM
def znP (A:List (List Rat)) (b C:List Rat) (m n:Nat) (val:Rat) (X Y:List Rat):Prop :=
 ∃ L bs,Sx.Feas (zbc A b C m n) L bs/\(∀ j,j < n + m->0<=L m j)/\val=L m (n + m)/\X=(List.range n).map (Sx.pnt (zbc A b C m n) L bs)/\Y=(List.range m).map λ i => L m (n + i)
def znr (A:List (List Rat)) (b C:List Rat) (m n:Nat) (X:List Rat):Prop :=
 ∃ L bs k,Sx.Feas (zbc A b C m n) L bs/\k < n + m/\L m k < 0/\(∀ t,t < m->L t k<=0)/\X=(List.range n).map (Sx.rayv (zbc A b C m n) L bs k)
end
def pI (q:Nat) (L:Nat->Nat->Rat) (bs:Nat->Nat) (i v:Nat):Rat:=Du.sm i λ t => if bs t=v then L t q else 0
theorem zkJ {q:Nat} {L:Nat->Nat->Rat} {bs:Nat->Nat}:∀ {i v:Nat},(∀ t,t < i->bs t ≠ v)->pI q L bs i v=0
 | 0,_,_ => rfl
 | i + 1,v,h => by
  have:=zkJ (q:=q) (L:=L) (bs:=bs) (i:=i) (v:=v) λ t ht => h t (by omega)
  unfold pI at this |-;rw [Du.sm,this,if_neg (h i (by omega))]; grind
def ptL (f:Nat->Rat) (q:Nat):List Qo:=(List.range q).map λ v => some (f v)
theorem zaN (f:Nat->Rat) (q:Nat):(ptL f q).length=q:=by simp [ptL]
theorem zbb {f:Nat->Rat} {q v:Nat} (h:v < q):(ptL f q)[v]?=some (some (f v)):=by
 unfold ptL; rw [List.getElem?_map,List.getElem?_range h]; rfl
theorem zes {f g:Nat->Rat} {q v:Nat} {r:Rat} (hv:v < q) (h1:g v=r) (h2:∀ c,c < q->c ≠ v->g c=f c):(ptL f q).set v (some r)=ptL g q:=by
 refine List.ext_getElem? λ c => ?_
 by_cases hc:c < q
 ·rw [zbb hc]
  by_cases e:c=v
  ·subst e;rw [List.getElem?_set_self (by rw [zaN]; exact hv),h1]
  ·rw [List.getElem?_set_ne (λ h => e h.symm),zbb hc,h2 c hc e]
 ·rw [List.getElem?_eq_none (by simp [zaN]; omega),List.getElem?_eq_none (by rw [zaN]; omega)]
theorem zmG {q i m:Nat} {L:Nat->Nat->Rat} {bs:Nat->Nat} (hi:i < m) (hb:bs i < q) (hinj:∀ s t,s < m->t < m->bs s=bs t->s=t):(ptL (pI q L bs i) q).set (bs i) (some (L i q))=ptL (pI q L bs (i + 1)) q:=by
 refine zes hb ?_ λ c _ hne => ?_
 ·have:=zkJ (q:=q) (L:=L) (bs:=bs) (i:=i) (v:=bs i) λ t ht e => by have:=hinj t i (by omega) hi e; omega
  unfold pI at this |-;rw [Du.sm,this,if_pos rfl]; grind
 ·unfold pI;rw [Du.sm,if_neg λ e => hne e.symm]; grind
theorem zjU {k n:Nat} (h:k < n):(List.replicate k (some (0:Rat)) ++ List.replicate (n - k) (none:Qo)).set k (some 0)=List.replicate (k + 1) (some (0:Rat)) ++ List.replicate (n - (k + 1)) none:=by
 apply List.ext_getElem?
 intro i
 by_cases hi:i=k
 ·subst hi;rw [List.getElem?_set_self (by simp; omega),List.getElem?_append_left (by simp),List.getElem?_replicate,if_pos (by omega)]
 ·rw [List.getElem?_set_ne (λ e => hi e.symm)]
  by_cases hlt:i < k
  ·rw [List.getElem?_append_left (by simp; omega),List.getElem?_append_left (by simp; omega),List.getElem?_replicate,List.getElem?_replicate,if_pos hlt,if_pos (by omega)]
  ·rw [List.getElem?_append_right (by simp; omega),List.getElem?_append_right (by simp; omega),List.length_replicate,List.length_replicate,List.getElem?_replicate,List.getElem?_replicate]
   by_cases hn:i < n
   ·rw [if_pos (by omega),if_pos (by omega)]
   ·rw [if_neg (by omega),if_neg (by omega)]
theorem zlk (q:Nat) (L:Nat->Nat->Rat) (bs:Nat->Nat):List.replicate q (some (0:Rat))=ptL (pI q L bs 0) q:=by
 refine List.ext_getElem? λ c => ?_
 by_cases hc:c < q
 ·rw [zbb hc,List.getElem?_replicate,if_pos hc]; rfl
 ·rw [List.getElem?_eq_none (by simp; omega),List.getElem?_eq_none (by rw [zaN]; omega)]
end Go.Proofs.YtfgffkmddanjjaaGreatDoor
