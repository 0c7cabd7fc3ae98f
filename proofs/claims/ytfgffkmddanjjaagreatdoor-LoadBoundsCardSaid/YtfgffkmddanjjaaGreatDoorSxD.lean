/-
  make of a slice of fractions.
-/
import Derived.Test.YtfgffkmddanjjaaGreatDoorD5
import Derived.Test.YtfgffkmddanjjaaGreatDoorD1
import Derived.Test.YtfgffkmddanjjaaGreatDoorSe
import Derived.Test.YtfgffkmddanjjaaGreatDoorSi
set_option linter.unusedVariables false
set_option linter.unusedSimpArgs false
namespace Go.Proofs.YtfgffkmddanjjaaGreatDoor
open Go.RowKit
theorem smade_at (z:Array Value) (n j:Nat) (h:j < n):(madeCells z n).toList[j]?=some (z[j % z.size]!):=by
 unfold madeCells;simp [h]
theorem smadeQ (w:World) (n:Nat):MQ (w.alloc (.cells (madeCells #[.bool false,.slice none 0 0,.bool false,.slice none 0 0] (n * 4)) 32)) w.heap.size (List.replicate n none):=by
 refine ⟨(madeCells #[.bool false,.slice none 0 0,.bool false,.slice none 0 0] (n * 4)).toList,?_,?_,?_,?_⟩
 ·have:=heap_alloc_new w (.cells (madeCells #[.bool false,.slice none 0 0,.bool false,.slice none 0 0] (n * 4)) 32)
  simpa [Row] using this
 ·simp [size_madeCells]
 ·intro u hu k z e;obtain ⟨j,hj⟩:=List.getElem?_of_mem hu;have hlt:j < n * 4:=by
   have:=(List.getElem?_eq_some_iff.1 hj).1
   simpa [size_madeCells] using this
  rw [smade_at _ _ _ hlt] at hj;have h4:j % 4 < 4:=Nat.mod_lt _ (by decide);simp only [Option.some.injEq] at hj;subst e;simp only [List.size_toArray,List.length_cons,List.length_nil,Nat.zero_add,Nat.reduceAdd] at hj
  match hm:j % 4,h4 with
  | 0,_ => rw [hm] at hj; simp at hj
  | 1,_ => rw [hm] at hj; simp at hj
  | 2,_ => rw [hm] at hj; simp at hj
  | 3,_ => rw [hm] at hj; simp at hj
 ·intro i o hi;rw [List.getElem?_replicate] at hi
  split at hi
  ·next hlt =>
   cases hi
   have e:∀ m,m < 4->(i * 4 + m) % 4=m:=λ m hm => by omega
   refine ⟨false,none,0,0,false,none,0,0,?_,?_,?_,?_,vq_zero _⟩
   ·rw [smade_at _ _ _ (by omega)]; simp
   ·rw [smade_at _ _ _ (by omega)]; simp [e 1 (by omega)]
   ·rw [smade_at _ _ _ (by omega)]; simp [e 2 (by omega)]
   ·rw [smade_at _ _ _ (by omega)]; simp [e 3 (by omega)]
  ·cases hi
section
variable {ops : Array Oper} {rest : List Oper} {o : Oper} {a : Act} {Q : Exit → Act → World → Prop}
theorem smake_q (w:World) (hg:o.guard=none) (l c:Operand) (hop:o.op=Op.makeSlice 33 l c) (n:Nat)
  (hl:a.eval l=.int .i64 n) (hc:a.eval c=.int .i64 n) (hn:n<=1000000)
  (hK:∀ w',MQ w' w.heap.size (List.replicate n none)->BH w w'->wpList Tryz.prog ops Q rest (a.put o.dst (.slice (some ⟨w.heap.size,0,none⟩) n n)) w') :
  wpList Tryz.prog ops Q (o :: rest) a w:=by
 obtain ⟨i0,hi,hz0,hz1,hz2⟩:=info_parts Tryz.info32;have hr:=run_makeSlice (P:=Tryz.prog) w 33 32 i0 (.agg #[.bool false,.slice none 0 0,.bool false,.slice none 0 0]) Tryz.underlying33 hi hz0 .i64 .i64 n n (by omega) (by omega)
  (by rw [hz1]; omega) (by rw [hz2]; omega) (by omega)
 simp only [Int.toNat_natCast] at hr;refine wpList_plain hg λ K hK' => ?_
 unfold Oper.wp;simp [execOp,hop,hl,hc,hr,Result.andThen];refine hK' _ _ (hK _ ?_ (bA _ _));rw [hz1];exact smadeQ w n
end
def datL (A:List (List Rat)) (b C:List Rat) (m n:Nat):Sx.Dat:=⟨m,n,λ i k => (A.getD i []).getD k 0,λ i => b.getD i 0,λ k => C.getD k 0⟩
section
variable {A : List (List Rat)} {b C : List Rat} {m n K : Nat}
theorem getD_pos {l:List Rat} (h:∀ x∈l,0<=x) (i:Nat):0<=l.getD i 0:=by
 rw [List.getD_eq_getElem?_getD]
 cases hl:l[i]? with
 | none => exact Rat.le_refl
 | some x => exact h x (List.mem_of_getElem? hl)
theorem tab0_feas (hb:∀ x∈b,0<=x):Sx.Feas (datL A b C m n) (tab0 A b C m n) (λ i => n + i):=by
 have e1:∀ t,t < m->∀ j,tab0 A b C m n t j=(datL A b C m n).col j t:=λ t ht j => by
  unfold tab0 Sx.Dat.col datL;rw [if_pos ht]
 refine ⟨Sx.inv_start (d:=datL A b C m n) (λ t ht j _ => e1 t ht j) (λ j _ => ?_) λ t _ => rfl,λ t ht => ?_⟩
 ·unfold tab0 Sx.Dat.cost datL;rw [if_neg (Nat.lt_irrefl m)]
  show (if j < n then - (C.getD j 0) else 0)=- (if j < n then C.getD j 0 else 0)
  split
  ·rfl
  ·rfl
 ·rw [e1 t ht,Sx.col_right];exact getD_pos hb t
theorem wh_one:Sx.Wh 1 1:=⟨1,rfl,by decide⟩
theorem getD_wh {l:List Rat} (h:∀ x∈l,Sx.Wh x K) (i:Nat):Sx.Wh (l.getD i 0) K:=by
 rw [List.getD_eq_getElem?_getD]
 cases hl:l[i]? with
 | none => exact Sx.wh_zero.mono (Nat.zero_le _)
 | some x => exact h x (List.mem_of_getElem? hl)
theorem wh_bd {x:Rat} {D:Int} {N M:Nat} (hD:D ≠ 0) (h:Sx.Wh (x * (D:Rat)) N) (hM:D.natAbs<=M):Rq.Bd x N M:=by
 obtain ⟨z,hz,hzN⟩:=h;have hd:(D:Rat) ≠ 0:=λ e => hD (by have:=congrArg Rat.num e; simpa using this)
 have e:x=Rat.divInt z D:=by
  rw [Rat.divInt_eq_div,<- hz,Rat.mul_div_cancel hd]
 rw [e];exact Rq.bd_of hD hzN hM
theorem datL_sz (hA:∀ r∈A,∀ x∈r,Sx.Wh x K) (hb:∀ x∈b,Sx.Wh x K) (hC:∀ x∈C,Sx.Wh x K) (hK:1<=K) (hbig:m * (Sx.dz K m * K) + (Sx.dz K m * K + Sx.dz K m)<=KK):SzD (datL A b C m n) m n (n + m):=by
 refine ⟨rfl,rfl,rfl,λ L bs hF i hi j hj => ?_⟩;have hcol:∀ j,j<=(datL A b C m n).w->∀ i,i < (datL A b C m n).m->Sx.Wh ((datL A b C m n).col j i) K:=λ j _ i _ => by
  unfold Sx.Dat.col datL
  show Sx.Wh (if j < n then _ else if j < n + m then _ else _) K
  split
  ·show Sx.Wh ((A.getD i []).getD j 0) K
   rw [List.getD_eq_getElem?_getD (l:=A)]
   cases ha:A[i]? with
   | none => exact getD_wh (l:=[]) (λ x h => by simp at h) j
   | some r => exact getD_wh (hA r (List.mem_of_getElem? ha)) j
  ·split
   ·show Sx.Wh (if i=j - n then 1 else 0) K
    split
    ·exact wh_one.mono hK
    ·exact Sx.wh_zero.mono (Nat.zero_le _)
   ·exact getD_wh hb i
 have hcst:∀ j,j<=(datL A b C m n).w->Sx.Wh ((datL A b C m n).cost j) K:=λ j _ => by
  unfold Sx.Dat.cost datL
  show Sx.Wh (if j < n then _ else _) K
  split
  ·exact getD_wh hC j
  ·exact Sx.wh_zero.mono (Nat.zero_le _)
 obtain ⟨D,hD,hDz,hsz⟩:=hF.inv.size hcol hcst;have:=wh_bd hD (hsz i hi j (by show j<=n + m; omega)) hDz;unfold Kb;rw [Nat.pow_one];exact ⟨Nat.le_trans this.1 hbig,Nat.le_trans this.2 (Nat.le_trans (Nat.le_trans (Nat.le_add_left _ _) (Nat.le_add_left _ _)) hbig)⟩
def OptX (A:List (List Rat)) (b C:List Rat) (m n:Nat) (val:Rat) (X Y:List Rat):Prop :=
 ∃ L bs,Sx.Feas (datL A b C m n) L bs/\(∀ j,j < n + m->0<=L m j)/\val=L m (n + m)/\X=(List.range n).map (Sx.pnt (datL A b C m n) L bs)/\Y=(List.range m).map λ i => L m (n + i)
def UnbX (A:List (List Rat)) (b C:List Rat) (m n:Nat) (X:List Rat):Prop :=
 ∃ L bs k,Sx.Feas (datL A b C m n) L bs/\k < n + m/\L m k < 0/\(∀ t,t < m->L t k<=0)/\X=(List.range n).map (Sx.rayv (datL A b C m n) L bs k)
end
def pI (q:Nat) (L:Nat->Nat->Rat) (bs:Nat->Nat) (i v:Nat):Rat:=Du.sm i λ t => if bs t=v then L t q else 0
theorem pI_out {q:Nat} {L:Nat->Nat->Rat} {bs:Nat->Nat}:∀ {i v:Nat},(∀ t,t < i->bs t ≠ v)->pI q L bs i v=0
 | 0,_,_ => rfl
 | i + 1,v,h => by
  have:=pI_out (q:=q) (L:=L) (bs:=bs) (i:=i) (v:=v) λ t ht => h t (by omega)
  unfold pI at this |-;rw [Du.sm,this,if_neg (h i (by omega))]; grind
def ptL (f:Nat->Rat) (q:Nat):List Qo:=(List.range q).map λ v => some (f v)
theorem ptL_length (f:Nat->Rat) (q:Nat):(ptL f q).length=q:=by simp [ptL]
theorem ptL_get {f:Nat->Rat} {q v:Nat} (h:v < q):(ptL f q)[v]?=some (some (f v)):=by
 unfold ptL; rw [List.getElem?_map,List.getElem?_range h]; rfl
theorem ptL_set {f g:Nat->Rat} {q v:Nat} {r:Rat} (hv:v < q) (h1:g v=r) (h2:∀ c,c < q->c ≠ v->g c=f c):(ptL f q).set v (some r)=ptL g q:=by
 refine List.ext_getElem? λ c => ?_
 by_cases hc:c < q
 ·rw [ptL_get hc]
  by_cases e:c=v
  ·subst e;rw [List.getElem?_set_self (by rw [ptL_length]; exact hv),h1]
  ·rw [List.getElem?_set_ne (λ h => e h.symm),ptL_get hc,h2 c hc e]
 ·rw [List.getElem?_eq_none (by simp [ptL_length]; omega),List.getElem?_eq_none (by rw [ptL_length]; omega)]
theorem pI_set {q i m:Nat} {L:Nat->Nat->Rat} {bs:Nat->Nat} (hi:i < m) (hb:bs i < q) (hinj:∀ s t,s < m->t < m->bs s=bs t->s=t):(ptL (pI q L bs i) q).set (bs i) (some (L i q))=ptL (pI q L bs (i + 1)) q:=by
 refine ptL_set hb ?_ λ c _ hne => ?_
 ·have:=pI_out (q:=q) (L:=L) (bs:=bs) (i:=i) (v:=bs i) λ t ht e => by have:=hinj t i (by omega) hi e; omega
  unfold pI at this |-;rw [Du.sm,this,if_pos rfl]; grind
 ·unfold pI;rw [Du.sm,if_neg λ e => hne e.symm]; grind
theorem put_repS {k n:Nat} (h:k < n):(List.replicate k (some (0:Rat)) ++ List.replicate (n - k) (none:Qo)).set k (some 0)=List.replicate (k + 1) (some (0:Rat)) ++ List.replicate (n - (k + 1)) none:=by
 apply List.ext_getElem?
 intro i
 by_cases hi:i=k
 ·subst hi;rw [List.getElem?_set_self (by simp; omega),List.getElem?_append_left (by simp),List.getElem?_replicate,if_pos (by omega)]
 ·rw [List.getElem?_set_ne (λ e => hi e.symm)]
  by_cases hlt:i < k
  ·rw [List.getElem?_append_left (by simp; omega),List.getElem?_append_left (by simp; omega),List.getElem?_replicate,List.getElem?_replicate,if_pos hlt,if_pos (by omega)]
  ·rw [List.getElem?_append_right (by simp; omega),List.getElem?_append_right (by simp; omega),List.length_replicate,List.length_replicate,List.getElem?_replicate,List.getElem?_replicate]
   by_cases hn:i < n
   ·rw [if_pos (by omega),if_pos (by omega)]
   ·rw [if_neg (by omega),if_neg (by omega)]
theorem rep_ptL (q:Nat) (L:Nat->Nat->Rat) (bs:Nat->Nat):List.replicate q (some (0:Rat))=ptL (pI q L bs 0) q:=by
 refine List.ext_getElem? λ c => ?_
 by_cases hc:c < q
 ·rw [ptL_get hc,List.getElem?_replicate,if_pos hc]; rfl
 ·rw [List.getElem?_eq_none (by simp; omega),List.getElem?_eq_none (by rw [ptL_length]; omega)]
end Go.Proofs.YtfgffkmddanjjaaGreatDoor
