import Derived.Test.YtileholjbdhmjaaGreatDoorWP
import Derived.Test.YtileholjbdhmjaaGreatDoorE14
import Derived.ChangeSlices
set_option linter.unusedVariables false
set_option linter.unusedSimpArgs false
set_option maxRecDepth 100000
set_option maxHeartbeats 25600000
namespace Go.Proofs.YtileholjbdhmjaaGreatDoor
open Go.ChangeShapes Go.WideShapes Go.ChangeAt Go.RowKit Go.Deep
theorem wfU_u8 {n:Int} (h:(Lit.int .u8 n).wf=true):0<=n/\n<=255:=by
 simp [Lit.wf,IntKind.min,IntKind.max,IntKind.signed,IntKind.bits] at h;omega
theorem wfU_i8 {n:Int} (h:(Lit.int .i8 n).wf=true):-128<=n/\n<=127:=by
 simp [Lit.wf,IntKind.min,IntKind.max,IntKind.signed,IntKind.bits] at h;omega
theorem cellsU_u8:Tryz.prog.cellsOf 5=1:=by kernel_rfl
theorem trod_u8 {H:Type} {enc:TypeId × Value->H} {W:World} {n:Nat} {v:Value} {x:DataW H × List MemPlace} (h:DataW.trod enc Tryz.prog W 0 (λ _ => true) true n 23 [v]=some x) :
  ∃ (a:Option Addr) (l:List Int) (c:Nat),v=.slice a l.length c/\l.length<=9223372036854775807/\UK .u8 W a l/\∀ z∈l,0<=z/\z<=255:=by
 rcases open_ints Tryz.underlying23 Tryz.underlying5 cellsU_u8 h with ⟨hcs,_⟩ | ⟨a,len,cap,zs,hcs,_,hl,hm,hz,_,hcell,hwz⟩
 ·simp only [List.cons.injEq,and_true] at hcs;exact ⟨none,[],0,hcs,by simp,λ i z h => by simp at h,λ z h => by simp at h⟩
 ·simp only [List.cons.injEq,and_true] at hcs;subst hcs;rw [if_pos rfl] at hz;have hlen:(zs.take len).length=len:=by simp; omega
  refine ⟨some a,zs.take len,cap,by rw [hlen],by rw [hlen]; unfold maxLen at hm; omega,?_,λ z hz => wfU_u8 (hwz z (List.mem_of_mem_take hz))⟩;intro i z hy;have hi:i < len:=by
   obtain ⟨h1,_⟩:=List.getElem?_eq_some_iff.1 hy;simp at h1; omega
  rw [List.getElem?_take_of_lt hi] at hy;have c0:=hcell 0 (by omega);have ci:=hcell i (by omega);have hsp:a.spot=none:=by
   have:a.add 0=a:=by simp [Addr.add]
   rw [this] at c0;exact spot_noneX c0
  obtain ⟨bb,off,sp⟩:=a;simp only at hsp;subst hsp;rw [add_plainX] at ci;refine ⟨bb,off,rfl,?_⟩;rw [ci,List.getD_eq_getElem?_getD,hy]
  rfl
theorem cellsU_i8:Tryz.prog.cellsOf 71=1:=by kernel_rfl
theorem trod_i8 {H:Type} {enc:TypeId × Value->H} {W:World} {n:Nat} {v:Value} {x:DataW H × List MemPlace} (h:DataW.trod enc Tryz.prog W 0 (λ _ => true) true n 24 [v]=some x) :
  ∃ (a:Option Addr) (l:List Int) (c:Nat),v=.slice a l.length c/\l.length<=9223372036854775807/\UK .i8 W a l/\∀ z∈l,-128<=z/\z<=127:=by
 rcases open_ints Tryz.underlying24 Tryz.underlying71 cellsU_i8 h with ⟨hcs,_⟩ | ⟨a,len,cap,zs,hcs,_,hl,hm,hz,_,hcell,hwz⟩
 ·simp only [List.cons.injEq,and_true] at hcs;exact ⟨none,[],0,hcs,by simp,λ i z h => by simp at h,λ z h => by simp at h⟩
 ·simp only [List.cons.injEq,and_true] at hcs;subst hcs;rw [if_pos rfl] at hz;have hlen:(zs.take len).length=len:=by simp; omega
  refine ⟨some a,zs.take len,cap,by rw [hlen],by rw [hlen]; unfold maxLen at hm; omega,?_,λ z hz => wfU_i8 (hwz z (List.mem_of_mem_take hz))⟩;intro i z hy;have hi:i < len:=by
   obtain ⟨h1,_⟩:=List.getElem?_eq_some_iff.1 hy;simp at h1; omega
  rw [List.getElem?_take_of_lt hi] at hy;have c0:=hcell 0 (by omega);have ci:=hcell i (by omega);have hsp:a.spot=none:=by
   have:a.add 0=a:=by simp [Addr.add]
   rw [this] at c0;exact spot_noneX c0
  obtain ⟨bb,off,sp⟩:=a;simp only at hsp;subst hsp;rw [add_plainX] at ci;refine ⟨bb,off,rfl,?_⟩;rw [ci,List.getD_eq_getElem?_getD,hy]
  rfl
theorem trod_ur {H:Type} {enc:TypeId × Value->H} {W:World} {n:Nat} {v:Value} {x:DataW H × List MemPlace} (h:DataW.trod enc Tryz.prog W 0 (λ _ => true) true n 22 [v]=some x) :
  ∃ (a:Option Addr) (rows:List (List Int)) (c:Nat),v=.slice a rows.length c/\rows.length<=9223372036854775807/\UR W a rows/\(∀ row∈rows,row.length<=9223372036854775807)/\∀ row∈rows,∀ z∈row,-128<=z/\z<=127:=by
 rcases open_slice1 Tryz.underlying22 (by kernel_rfl) h with ⟨hcs,_⟩ | ⟨a,len,cap,m,n,V,D,Pl,hcs,_,hl,hm,hmm,_,hi⟩
 ·simp only [List.cons.injEq,and_true] at hcs;exact ⟨none,[],0,hcs,by simp,λ i z h => by simp at h,λ z h => by simp at h,λ z h => by simp at h⟩
 ·simp only [List.cons.injEq,and_true] at hcs;subst hcs;rw [if_pos rfl] at hmm;subst hmm;have hex:∀ i,i < len->∃ (row:List Int) (b off:Nat) (ar:Option Addr) (cr:Nat),a=⟨b,off,none⟩/\W.cell? ⟨b,off + i,none⟩=some (.slice ar row.length cr)/\UK .i8 W ar row/\row.length<=9223372036854775807/\∀ z∈row,-128<=z/\z<=127:=by
   intro i hlt;obtain ⟨h1,h2⟩:=hi i (by omega);obtain ⟨ar,row,cr,e,hlr,hu,hz⟩:=trod_i8 h2;rw [e] at h1;have hsp:a.spot=none:=by
    have g:=(hi 0 (by omega)).1;have e1:a.add 0=a:=by simp [Addr.add]
    rw [e1] at g;exact spot_noneX g
   obtain ⟨b,off,sp⟩:=a;simp only at hsp;subst hsp;rw [add_plainX] at h1;exact ⟨row,b,off,ar,cr,rfl,h1,hu,hlr,hz⟩
  obtain ⟨f,hf⟩:∃ f:Nat->List Int,∀ i,i < len->∃ (b off:Nat) (ar:Option Addr) (cr:Nat),a=⟨b,off,none⟩/\W.cell? ⟨b,off + i,none⟩=some (.slice ar (f i).length cr)/\UK .i8 W ar (f i)/\(f i).length<=9223372036854775807/\∀ z∈f i,-128<=z/\z<=127:=by
   classical
   refine ⟨λ i => if h:i < len then (hex i h).choose else [],λ i h => ?_⟩;have:=(hex i h).choose_spec;simp only [dif_pos h];exact this
  refine ⟨some a,(List.range len).map f,m,by simp,by simp; unfold maxLen at hm; omega,?_,?_,?_⟩
  ·intro i row hr;rw [List.getElem?_map] at hr;obtain ⟨j,hj,rfl⟩:=Option.map_eq_some_iff.1 hr;obtain ⟨hlt,e⟩:=List.getElem?_eq_some_iff.1 hj;simp at hlt e;subst e;obtain ⟨b,off,ar,cr,e,hc,hu,_⟩:=hf i hlt;exact ⟨b,off,ar,cr,by rw [e],hc,hu⟩
  ·intro row hr;obtain ⟨j,hj,rfl⟩:=List.mem_map.1 hr;obtain ⟨_,_,_,_,_,_,_,h1,_⟩:=hf j (by simpa using hj);exact h1
  ·intro row hr;obtain ⟨j,hj,rfl⟩:=List.mem_map.1 hr;obtain ⟨_,_,_,_,_,_,_,_,h1⟩:=hf j (by simpa using hj);exact h1
theorem open_draft13 {H:Type} {enc:TypeId × Value->H} {r:Reach} {b0:Nat} {W:World} {v:Value} {d:DataW H} {p:List MemPlace} (hv:Value.okWide Tryz.prog W r b0 26 v) (h:DataW.Trod enc Tryz.prog W 0 (λ _ => true) true 26 v d p) :
  ∃ (aA:Option Addr) (A:List (List Int)) (cA:Nat) (aB:Option Addr) (B:List Int) (cB:Nat) (aC:Option Addr) (C:List Int) (cC:Nat),v=.agg #[.slice aA A.length cA,.slice aB B.length cB,.slice aC C.length cC] /\
   A.length<=9223372036854775807/\B.length<=9223372036854775807/\C.length<=9223372036854775807/\(∀ row∈A,row.length<=9223372036854775807)/\(∀ row∈A,∀ z∈row,-128<=z/\z<=127)/\(∀ z∈B,0<=z/\z<=255)/\(∀ z∈C,-128<=z/\z<=127)/\UR W aA A/\UK .u8 W aB B/\UK .i8 W aC C:=by
 obtain ⟨cs,rfl,hsz⟩:=okWide_struct Tryz.underlying26 hv;have h3:Tryz.prog.cellsOf 26=3:=by kernel_rfl
 obtain ⟨x0,x1,x2,rfl⟩:=array_three (hsz.trans h3);obtain ⟨fuel,hf⟩:=h;obtain ⟨xs,m,_,_,_,hl,hx⟩:=DataW.trod_struct Tryz.underlying26 hf;obtain ⟨y0,y1,y2,rfl⟩:=list_three hl;have t0:=hx 0 _ rfl;have t1:=hx 1 _ rfl;have t2:=hx 2 _ rfl;simp only [Value.cells,List.getElem?_cons_zero,List.getElem?_cons_succ] at t0 t1 t2;obtain ⟨aA,A,cA,rfl,nA,uA,lA,zA⟩:=trod_ur t0;obtain ⟨aB,B,cB,rfl,nB,uB,zB⟩:=trod_u8 t1;obtain ⟨aC,C,cC,rfl,nC,uC,zC⟩:=trod_i8 t2;exact ⟨aA,A,cA,aB,B,cB,aC,C,cC,rfl,nA,nB,nC,lA,zA,zB,zC,uA,uB,uC⟩
end Go.Proofs.YtileholjbdhmjaaGreatDoor
