/-
  make of a slice of fractions.
-/
import Derived.Test.YtfgffkmddanjjaaGreatDoorDuS
import Derived.Test.YtfgffkmddanjjaaGreatDoorSxA
import Derived.Test.YtfgffkmddanjjaaGreatDoorSh
set_option linter.unusedVariables false
set_option linter.unusedSimpArgs false
set_option maxRecDepth 100000
set_option maxHeartbeats 25600000
namespace Go.Proofs.YtfgffkmddanjjaaGreatDoor
open _root_.Go.Proofs.Tryz
open Go.RowKit
variable {Q:Exit->Act->Wo->Prop} {l:List Qo} {ca cb g ga gb gx i k q v:Nat} {bs cr rr:Nat->Nat} {L:Nat->Nat->Rat} {f:Nat->Rat} {x0 x1 x10 x100 x101 x11 x12 x13 x14 x15 x16 x17 x18 x19 x2 x20 x21 x22 x23 x24 x25 x26 x27 x28 x29 x3 x30 x31 x32 x33 x34 x35 x36 x37 x38 x39 x4 x40 x41 x42 x43 x44 x45 x46 x47 x48 x49 x50 x51 x52 x53 x54 x55 x56 x57 x58 x59 x6 x60 x61 x62 x63 x64 x65 x66 x67 x68 x69 x7 x70 x71 x72 x73 x74 x75 x76 x77 x78 x79 x80 x81 x82 x83 x84 x85 x86 x87 x88 x89 x9 x90 x91 x92 x93 x94 x95 x96 x97 x98 x99:Vl}
theorem zcQ(z:Array Vl)(n j:Nat)(h:j<n):(madeCells z n).toList[j]?=some (z[j % z.size]!):=by
 unfold madeCells;simp[h]
theorem znR(w:Wo)(n:Nat):MQ (w.alloc (.cells (madeCells #[.bool false,.slice none 0 0,.bool false,.slice none 0 0] (n*4)) 32)) w.heap.size (List.replicate n none):=by
 refine⟨(madeCells #[.bool false,.slice none 0 0,.bool false,.slice none 0 0] (n*4)).toList,?_,?_,?_,?_⟩
 ·have:=heap_alloc_new w (.cells (madeCells #[.bool false,.slice none 0 0,.bool false,.slice none 0 0] (n*4)) 32)
  simpa [Row]using this
 ·simp[size_madeCells]
 ·intro u hu k z e;obtain⟨j,hj⟩:=List.getElem?_of_mem hu;have hlt:j<n*4:=by
   have:=(List.getElem?_eq_some_iff.1 hj).1
   simpa [size_madeCells]using this
  rw[zcQ _ _ _ hlt]at hj;have h4:j % 4<4:=Nat.mod_lt _ dM;simp only[Option.some.injEq]at hj;subst e;simp only[List.size_toArray,List.length_cons,List.length_nil,Nat.zero_add,Nat.reduceAdd]at hj
  match hm:j % 4,h4 with
  |0,_=>rw[hm]at hj;simp at hj
  |1,_=>rw[hm]at hj;simp at hj
  |2,_=>rw[hm]at hj;simp at hj
  |3,_=>rw[hm]at hj;simp at hj
 ·intro i o hi;rw[List.getElem?_replicate]at hi
  split at hi
  ·next hlt=>
   cases hi
   have e:∀m,m<4->(i*4+m) % 4=m:=λm hm=>by omega
   refine⟨false,none,0,0,false,none,0,0,?_,?_,?_,?_,zmg _⟩
   ·rw[zcQ _ _ _ oM];simp
   ·rw[zcQ _ _ _ oM];simp[e 1 oM]
   ·rw[zcQ _ _ _ oM];simp[e 2 oM]
   ·rw[zcQ _ _ _ oM];simp[e 3 oM]
  ·cases hi
section
variable {ops : Array Oper} {rest : List Oper} {o : Oper} {a : Act} {Q : Exit → Act → Wo → Prop}
theorem zmm(w:Wo)(hg:o.guard=none)(l c:Operand)(hop:o.op=Op.makeSlice 33 l c)(n:Nat)
  (hl:a.eval l=.int .i64 n)(hc:a.eval c=.int .i64 n)(hn:n<=1000000)
  (hK:∀w',MQ w' w.heap.size (List.replicate n none)->BH w w'->wpList Tryz.prog ops Q rest (a.put o.dst (.slice (some ⟨w.heap.size,0,none⟩) n n)) w') :
  wpList Tryz.prog ops Q (o :: rest) a w:=by
 obtain⟨i0,hi,hz0,hz1,hz2⟩:=info_parts Tryz.info32;have hr:=run_makeSlice (P:=Tryz.prog) w 33 32 i0 (.agg #[.bool false,.slice none 0 0,.bool false,.slice none 0 0]) Tryz.underlying33 hi hz0 .i64 .i64 n n oM oM
  (by rw[hz1];omega) (by rw[hz2];omega) oM
 simp only[Int.toNat_natCast]at hr;refine wpList_plain hg λK hK'=>?_
 unfold Oper.wp;simp[execOp,hop,hl,hc,hr,Result.andThen];refine hK' _ _ (hK _ ?_ (bA _ _));rw[hz1];exact znR w n
end
def zbg(A:List (List Rat))(b C:List Rat)(m n:Nat):Sx.Dat:=⟨m,n,λi k=>(A.getD i []).getD k 0,λi=>b.getD i 0,λk=>C.getD k 0⟩
section
variable {A : List (List Rat)} {b C : List Rat} {m n K : Nat}
theorem zlm{l:List Rat}(h:∀x∈l,0<=x)(i:Nat):0<=l.getD i 0:=by
 rw[List.getD_eq_getElem?_getD]
 cases hl:l[i]? with
 |none=>exact Rat.le_refl
 |some x=>exact h x (List.mem_of_getElem? hl)
theorem zi3(hb:∀x∈b,0<=x):Sx.Feas (zbg A b C m n) (zcb A b C m n) (λi=>n+i):=by
 have e1:∀t,t<m->∀j,zcb A b C m n t j=(zbg A b C m n).col j t:=λt ht j=>by
  unfold zcb Sx.Dat.col zbg;rw[if_pos ht]
 refine⟨Sx.inv_start (d:=zbg A b C m n) (λt ht j _=>e1 t ht j) (λj _=>?_) λt _=>rfl,λt ht=>?_⟩
 ·unfold zcb Sx.Dat.cost zbg;rw[if_neg (Nat.lt_irrefl m)]
  show(if j<n then-(C.getD j 0)else 0)=- (if j<n then C.getD j 0 else 0)
  split
  ·rfl
  ·rfl
 ·rw[e1 t ht,Sx.col_right];exact zlm hb t
theorem zei:Sx.Wh 1 1:=⟨1,rfl,dM⟩
theorem zdW{l:List Rat}(h:∀x∈l,Sx.Wh x K)(i:Nat):Sx.Wh (l.getD i 0) K:=by
 rw[List.getD_eq_getElem?_getD]
 cases hl:l[i]? with
 |none=>exact Sx.wh_zero.mono (Nat.zero_le _)
 |some x=>exact h x (List.mem_of_getElem? hl)
theorem zme{x:Rat}{D:Int}{N M:Nat}(hD:D≠0)(h:Sx.Wh (x*(D:Rat)) N)(hM:D.natAbs<=M):Rq.Bd x N M:=by
 obtain⟨z,hz,hzN⟩:=h;have hd:(D:Rat)≠0:=λe=>hD (by have:=congrArg Rat.num e;simpa using this)
 have e:x=Rat.divInt z D:=by
  rw[Rat.divInt_eq_div,<-hz,Rat.mul_div_cancel hd]
 rw[e];exact Rq.bd_of hD hzN hM
def zpi(A:List (List Rat))(b C:List Rat)(m n:Nat)(val:Rat)(X Y:List Rat):Prop :=
 ∃L bs,Sx.Feas (zbg A b C m n) L bs/\(∀j,j<n+m->0<=L m j)/\val=L m (n+m)/\X=(List.range n).map (Sx.pnt (zbg A b C m n) L bs)/\Y=(List.range m).map λi=>L m (n+i)
def zoR(A:List (List Rat))(b C:List Rat)(m n:Nat)(X:List Rat):Prop :=
 ∃L bs k,Sx.Feas (zbg A b C m n) L bs/\k<n+m/\L m k<0/\(∀t,t<m->L t k<=0)/\X=(List.range n).map (Sx.rayv (zbg A b C m n) L bs k)
end
def pI(q:Nat)(L:Nat->Nat->Rat)(bs:Nat->Nat)(i v:Nat):Rat:=Du.sm i λt=>if bs t=v then L t q else 0
theorem zlU:∀{i v:Nat},(∀t,t<i->bs t≠v)->pI q L bs i v=0
 |0,_,_=>rfl
 |i+1,v,h=>by
  have:=zlU (i:=i) (v:=v) λt ht=>h t oM
  unfold pI at this|-;rw[Du.sm,this,if_neg (h i oM)];grind
def ptL(f:Nat->Rat)(q:Nat):List Qo:=(List.range q).map λv=>some (f v)
theorem zba(f:Nat->Rat)(q:Nat):(ptL f q).length=q:=by simp[ptL]
theorem zbV(h:v<q):(ptL f q)[v]?=some (some (f v)):=by
 unfold ptL;rw[List.getElem?_map,List.getElem?_range h];rfl
theorem zgO{g:Nat->Rat}{r:Rat}(hv:v<q)(h1:g v=r)(h2:∀c,c<q->c≠v->g c=f c):(ptL f q).set v (some r)=ptL g q:=by
 refine List.ext_getElem? λc=>?_
 by_cases hc:c<q
 ·rw[zbV hc]
  by_cases e:c=v
  ·subst e;rw[List.getElem?_set_self (by rw[zba];exact hv),h1]
  ·rw[List.getElem?_set_ne (λh=>e h.symm),zbV hc,h2 c hc e]
 ·rw[List.getElem?_eq_none (by simp[zba];omega),List.getElem?_eq_none (by rw[zba];omega)]
theorem zn7{m:Nat}(hi:i<m)(hb:bs i<q)(hinj:∀s t,s<m->t<m->bs s=bs t->s=t):(ptL (pI q L bs i) q).set (bs i) (some (L i q))=ptL (pI q L bs (i+1)) q:=by
 refine zgO hb ?_ λc _ hne=>?_
 ·have:=zlU (q:=q) (L:=L) (bs:=bs) (i:=i) (v:=bs i) λt ht e=>by have:=hinj t i oM hi e;omega
  unfold pI at this|-;rw[Du.sm,this,if_pos rfl];grind
 ·unfold pI;rw[Du.sm,if_neg λe=>hne e.symm];grind
theorem zk5{n:Nat}(h:k<n):(List.replicate k (some (0:Rat))++List.replicate (n-k) (none:Qo)).set k (some 0)=List.replicate (k+1) (some (0:Rat))++List.replicate (n-(k+1)) none:=by
 apply List.ext_getElem?
 intro i
 by_cases hi:i=k
 ·subst hi;rw[List.getElem?_set_self (by simp;omega),List.getElem?_append_left sM,List.getElem?_replicate,if_pos oM]
 ·rw[List.getElem?_set_ne (λe=>hi e.symm)]
  by_cases hlt:i<k
  ·rw[List.getElem?_append_left (by simp;omega),List.getElem?_append_left (by simp;omega),List.getElem?_replicate,List.getElem?_replicate,if_pos hlt,if_pos oM]
  ·rw[List.getElem?_append_right (by simp;omega),List.getElem?_append_right (by simp;omega),List.length_replicate,List.length_replicate,List.getElem?_replicate,List.getElem?_replicate]
   by_cases hn:i<n
   ·rw[if_pos oM,if_pos oM]
   ·rw[if_neg oM,if_neg oM]
theorem zmw(q:Nat)(L:Nat->Nat->Rat)(bs:Nat->Nat):List.replicate q (some (0:Rat))=ptL (pI q L bs 0) q:=by
 refine List.ext_getElem? λc=>?_
 by_cases hc:c<q
 ·rw[zbV hc,List.getElem?_replicate,if_pos hc];rfl
 ·rw[List.getElem?_eq_none (by simp;omega),List.getElem?_eq_none (by rw[zba];omega)]
def FK(G:Nat->Prop)(l:List Qo)(n:Nat)(W:Wo)(v:Vl):Prop:=∃ao cap,v=.slice ao n cap/\∀W',zah G W W'->UQ W' ao l
theorem FK.stay{G:Nat->Prop}{n:Nat}:zgq G (FK G l n):=λW W' v ⟨ao,cap,e,h⟩ hk=>⟨ao,cap,e,λW2 hk2=>h W2 (hk.trans hk2)⟩
theorem zpK{B m n:Nat}{bi:Nat}{w:Wo}
  (h:TB w B g ga ca gb cb m n q rr cr L bs)(hi:i<m)(hl:l.length=q)(hbq:bi<q)(hM:MQ w gx l)
  (hQ:∀(T:Nat->Vl)(W:Wo),MQ W gx (l.set bi (some (L i q)))->zah (λb=>b=gx) w W->Q .normal {tmps:=List.toArray (x0::x1::x2::x3::x4::(.pointer (some ⟨g,0,none⟩))::x6::x7::(.slice (some ⟨gx,0,none⟩) q q)::x9::(.int .i64 (i:Nat))::(.int .i64 (bi:Nat))::x12::x13::x14::x15::x16::x17::x18::x19::x20::x21::x22::x23::x24::x25::x26::x27::x28::x29::x30::x31::x32::x33::x34::x35::x36::x37::x38::x39::x40::x41::x42::x43::x44::x45::x46::x47::x48::x49::x50::x51::x52::x53::x54::x55::(T 56)::(T 57)::(T 58)::(T 59)::(T 60)::(T 61)::(T 62)::(T 63)::(T 64)::(T 65)::(T 66)::(T 67)::(T 68)::(T 69)::x70::x71::x72::x73::x74::x75::x76::x77::x78::x79::x80::x81::x82::x83::x84::x85::x86::x87::x88::x89::x90::x91::x92::x93::x94::x95::x96::x97::x98::x99::x100::x101::[]),defers:=[]} W) :
  Code.wp Tryz.prog (rgn Tryz.f66 19) Q {tmps:=List.toArray (x0::x1::x2::x3::x4::(.pointer (some ⟨g,0,none⟩))::x6::x7::(.slice (some ⟨gx,0,none⟩) q q)::x9::(.int .i64 (i:Nat))::(.int .i64 (bi:Nat))::x12::x13::x14::x15::x16::x17::x18::x19::x20::x21::x22::x23::x24::x25::x26::x27::x28::x29::x30::x31::x32::x33::x34::x35::x36::x37::x38::x39::x40::x41::x42::x43::x44::x45::x46::x47::x48::x49::x50::x51::x52::x53::x54::x55::x56::x57::x58::x59::x60::x61::x62::x63::x64::x65::x66::x67::x68::x69::x70::x71::x72::x73::x74::x75::x76::x77::x78::x79::x80::x81::x82::x83::x84::x85::x86::x87::x88::x89::x90::x91::x92::x93::x94::x95::x96::x97::x98::x99::x100::x101::[]),defers:=[]} w:=by
 have HQ0:=hii hQ;clear hQ
 conv=>arg 2;whnf
 have hxi:(i:Int)<(m:Int)+1:=oM;have hxq:(q:Int)<(q:Int)+1:=oM;have hxb:(bi:Int)<(q:Int):=oM;have him:i<=m:=oM;obtain⟨hm,hn⟩:=h.small;have Hq:=hii h.wq;obtain⟨J3,ao3,n3,Y3,K3,ap3,m3,Z3,y0,y1,y2,y3,-,-,-,-,V3⟩:=h.cells4 (i:=i) (j:=q) him oM;have z3:zft w (rr i) (q*4) (.bool J3) (.slice ao3 n3 Y3) (.bool K3) (.slice ap3 m3 Z3):=⟨y0,y1,y2,y3,trivial,trivial,trivial,trivial⟩;clear y0 y1 y2 y3;have hbi:bi<l.length:=oM;refine zbd (wx:=w) (λb=>b=gx) [vf (.slice (some ⟨gx,0,none⟩) q q),vf (.int .i64 (bi:Nat)),vf (.pointer (some ⟨g,0,none⟩)),vf (.pointer (some ⟨g,0,none⟩)),vf (.pointer (some ⟨g,2,none⟩)),vf (.slice (some ⟨ga,0,none⟩) (m+1) ca),vf (.int .i64 (i:Nat)),vf (.pointer (some ⟨ga,i,none⟩)),vf (.slice (some ⟨rr i,0,none⟩) (q+1) (cr i)),vf (.pointer (some ⟨g,0,none⟩)),vf (.int .i64 (q:Nat)),vf (.pointer (some ⟨rr i,q*4,none⟩)),vf (.agg #[.bool J3,.slice ao3 n3 Y3,.bool K3,.slice ap3 m3 Z3]),vf (.pointer (some ⟨gx,bi*4,none⟩)),(λ_ _=>True)] [some 56,some 57,some 58,some 59,some 60,some 61,some 62,some 63,some 64,some 65,some 66,some 67,some 68,some 69,none] [56,57,58,59,60,61,62,63,64,65,66,67,68,69] 14 (λW=>TB W B g ga ca gb cb m n q rr cr L bs/\MQ W gx l/\zad W (qA J3 ao3 n3 Y3 K3 ap3 m3 Z3) (L i q)/\zft W (rr i) (q*4) (.bool J3) (.slice ao3 n3 Y3) (.bool K3) (.slice ap3 m3 Z3)) (λW=>MQ W gx (l.set bi (some (L i q)))) dM ⟨h.mono br.drew,hM.mono br.drew,V3.mono br.drew,z3.mono br.drew⟩ (λW W' h hb=>⟨h.1.mono hb,h.2.1.mono hb,h.2.2.1.mono hb,h.2.2.2.mono hb⟩) (λW W' h hb=>h.mono hb) (zah.refl _) ⟨zab _ _,zab _ _,zab _ _,zab _ _,zab _ _,zab _ _,zab _ _,zab _ _,zab _ _,zab _ _,zab _ _,zab _ _,zab _ _,zab _ _,(λ_ _ _ h _=>h),trivial⟩ ⟨tP,tP,tP,tP,tP,?s5,tP,tP,?s8,tP,?s10,tP,?s12,tP,?s14,trivial⟩ ?he
 case' s5|s8|s10|s12|s14=>
  rintro T W hk hp hA K hK;simp only[yA,yB,yC,Region.binds]at hA;simp only[sA,hA]at hK|-;have HK:=hii hK;clear hK hA
 case' s5=>
  have hp:=hp (.inr dM);obtain⟨x0,x1,x2,x3,x4⟩:=hp.1.box.n5
 case' s8=>
  have hp:=hp (.inr dM);have x5:=hp.1.o i him
 case' s12=>
  have hp:=hp (.inr dM);obtain⟨f0,f1,f2,f3,_,_,_,_⟩:=hp.2.2.2
 case s5|s8|s12=>
  exact cV
 case s10=>
  have hp:=hp (.inr dM);refine wO rfl ?_;go_simp;go_fit (zcJ g ga ca gb cb m n q Hq.o hm hn W hp.1.box);rintro e w1⟨rfl,hb1⟩
  try dsimp only
  exact HK.o _ _ ⟨λ_=>hb1,λh=>absurd h dM,.of_below hb1⟩ (rfl)
 case s14=>
  have hp:=hp (.inl rfl);obtain⟨_,_,_,_,_,_,_,_,c0,c1,c2,c3,f0,f1,f2,f3,-⟩:=hp.2.1.four hbi;have Hput:=hii (hp.2.1.put (o:=some (L i q)) hbi hp.2.2.1).1;refine wO rfl ?_;go_simp;exact HK.o undef _ ⟨λh=>absurd rfl h,λ_=>Hput.o,((((zah.refl W:zah (λb=>b=gx) W W).setCell (p:=⟨gx,bi*4,none⟩) rfl _).setCell (p:=⟨gx,bi*4+1,none⟩) rfl _).setCell (p:=⟨gx,bi*4+2,none⟩) rfl _).setCell (p:=⟨gx,bi*4+3,none⟩) rfl _⟩ (trivial)
 case he=>
  rintro T W hk hR hA;simp only[sA];exact HQ0.o T W hR hk
theorem zpJ{B m n:Nat}{w:Wo}{x8:Vl}
  (h:TB w B g ga ca gb cb m n q rr cr L bs)
  (hQ:∀(T:Nat->Vl)(W:Wo),BH w W->Q .normal {tmps:=List.toArray (x0::x1::x2::x3::x4::(.pointer (some ⟨g,0,none⟩))::x6::x7::x8::x9::x10::x11::(.slice (some ⟨rr m,0,none⟩) (q+1) (cr m))::x13::x14::x15::x16::x17::x18::x19::x20::x21::x22::x23::x24::x25::x26::x27::x28::x29::x30::x31::x32::x33::x34::x35::x36::x37::x38::x39::x40::x41::x42::x43::x44::x45::x46::x47::x48::x49::x50::x51::x52::x53::x54::x55::x56::x57::x58::x59::x60::x61::x62::x63::x64::x65::x66::x67::x68::x69::x70::(T 71)::(T 72)::(T 73)::(T 74)::(T 75)::(T 76)::(T 77)::(T 78)::(T 79)::(T 80)::x81::x82::x83::x84::x85::x86::x87::x88::x89::x90::x91::x92::x93::x94::x95::x96::x97::x98::x99::x100::x101::[]),defers:=[]} W) :
  Code.wp Tryz.prog (rgn Tryz.f66 21) Q {tmps:=List.toArray (x0::x1::x2::x3::x4::(.pointer (some ⟨g,0,none⟩))::x6::x7::x8::x9::x10::x11::x12::x13::x14::x15::x16::x17::x18::x19::x20::x21::x22::x23::x24::x25::x26::x27::x28::x29::x30::x31::x32::x33::x34::x35::x36::x37::x38::x39::x40::x41::x42::x43::x44::x45::x46::x47::x48::x49::x50::x51::x52::x53::x54::x55::x56::x57::x58::x59::x60::x61::x62::x63::x64::x65::x66::x67::x68::x69::x70::x71::x72::x73::x74::x75::x76::x77::x78::x79::x80::x81::x82::x83::x84::x85::x86::x87::x88::x89::x90::x91::x92::x93::x94::x95::x96::x97::x98::x99::x100::x101::[]),defers:=[]} w:=by
 have HQ0:=hii hQ;clear hQ
 conv=>arg 2;whnf
 have hxm:(m:Int)<(m:Int)+1:=oM;refine zae (wx:=w) [vf (.pointer (some ⟨g,0,none⟩)),vf (.pointer (some ⟨g,0,none⟩)),vf (.pointer (some ⟨g,2,none⟩)),vf (.slice (some ⟨ga,0,none⟩) (m+1) ca),vf (.pointer (some ⟨g,0,none⟩)),vf (.pointer (some ⟨g,0,none⟩)),vf (.pointer (some ⟨g,0,none⟩)),vf (.int .i64 (m:Nat)),vf (.pointer (some ⟨ga,m,none⟩)),vf (.slice (some ⟨rr m,0,none⟩) (q+1) (cr m)),vf (.slice (some ⟨rr m,0,none⟩) (q+1) (cr m))] [71,72,73,74,75,76,77,78,79,80,12] br zS ⟨tV,tV,tV,?s3,tV,tV,tV,?s7,tV,?s9,tV,trivial⟩ ?he
 case s3|s7=>
  rintro T W hb hA K hK;simp only[yA,Region.binds]at hA;simp only[sA,hA]at hK|-;have HK:=hii hK;clear hK hA;obtain⟨x0,x1,x2,x3,x4⟩:=(h.mono hb).box.n5;exact cH
 case s9=>
  rintro T W hb hA K hK;simp only[yA,Region.binds]at hA;simp only[sA,hA]at hK|-;have HK:=hii hK;clear hK hA;have x5:=(h.mono hb).o m (Nat.le_refl m);exact cH
 case he=>
  rintro T W hb hA;have f10:T 12=.slice (some ⟨rr m,0,none⟩) (q+1) (cr m):=hA.at 10 dM;simp only[sA,f10];exact HQ0.o T W hb
theorem zpI{B m n:Nat}{g2:Nat}{w:Wo}
  (h:TB w B g ga ca gb cb m n q rr cr L bs)(hmp:0<m)(hn0:0<n)(hM:MQ w gx l)(r2:Row w g2 109 [.bool false,.slice none 0 0,.bool false,.slice none 0 0,.slice none 0 0,.slice none 0 0])
  (hQ:∀(T:Nat->Vl)(W:Wo)(J3:Bool)(ao3:OA)(n3 Y3:Nat)(K3:Bool)(ap3:OA)(m3 Z3:Nat)(ac:OA)(cc:Nat),Row W g2 109 [.bool J3,.slice ao3 n3 Y3,.bool K3,.slice ap3 m3 Z3,.slice (some ⟨gx,0,none⟩) n q,.slice ac (q-n) cc]->UQ W ac ((List.range (q-n)).map λi=>some (L m (n+i)))->zad w (qA J3 ao3 n3 Y3 K3 ap3 m3 Z3) (L m q)->zah (λb=>b=g2) w W->Q .normal {tmps:=List.toArray (x0::x1::(.pointer (some ⟨g2,0,none⟩))::(.int .i64 0)::x4::(.pointer (some ⟨g,0,none⟩))::x6::x7::(.slice (some ⟨gx,0,none⟩) q q)::x9::x10::x11::(.slice (some ⟨rr m,0,none⟩) (q+1) (cr m))::x13::x14::x15::x16::x17::x18::x19::x20::x21::x22::x23::x24::x25::x26::x27::x28::x29::x30::x31::x32::x33::x34::x35::x36::x37::x38::x39::x40::x41::x42::x43::x44::x45::x46::x47::x48::x49::x50::x51::x52::x53::x54::x55::x56::x57::x58::x59::x60::x61::x62::x63::x64::x65::x66::x67::x68::x69::x70::x71::x72::x73::x74::x75::x76::x77::x78::x79::x80::(T 81)::(T 82)::(T 83)::(T 84)::(T 85)::(T 86)::(T 87)::(T 88)::(T 89)::(T 90)::(T 91)::(T 92)::(T 93)::(T 94)::(T 95)::(T 96)::(T 97)::(T 98)::(T 99)::(T 100)::(T 101)::[]),defers:=[]} W) :
  Code.wp Tryz.prog (rgn Tryz.f66 22) Q {tmps:=List.toArray (x0::x1::(.pointer (some ⟨g2,0,none⟩))::x3::x4::(.pointer (some ⟨g,0,none⟩))::x6::x7::(.slice (some ⟨gx,0,none⟩) q q)::x9::x10::x11::(.slice (some ⟨rr m,0,none⟩) (q+1) (cr m))::x13::x14::x15::x16::x17::x18::x19::x20::x21::x22::x23::x24::x25::x26::x27::x28::x29::x30::x31::x32::x33::x34::x35::x36::x37::x38::x39::x40::x41::x42::x43::x44::x45::x46::x47::x48::x49::x50::x51::x52::x53::x54::x55::x56::x57::x58::x59::x60::x61::x62::x63::x64::x65::x66::x67::x68::x69::x70::x71::x72::x73::x74::x75::x76::x77::x78::x79::x80::x81::x82::x83::x84::x85::x86::x87::x88::x89::x90::x91::x92::x93::x94::x95::x96::x97::x98::x99::x100::x101::[]),defers:=[]} w:=by
 have HQ0:=hii hQ;clear hQ
 conv=>arg 2;whnf
 have hxq:(q:Int)<(q:Int)+1:=oM;have hnq:n<q:=by have:=h.wq;omega
 have hnq1:(n:Int)<=(q:Int):=oM;have hcap:=h.cap (Nat.le_refl m);have hcp1:(q:Int)<=(cr m:Int):=oM;have hcp2:¬cr m=n:=oM;have hcp3:(n:Int)<=(cr m:Int):=oM;have hq2:q<=2000:=by have:=h.wq;have:=h.small;omega
 obtain⟨hm,hn⟩:=h.small;have Hq:=hii h.wq;obtain⟨J3,ao3,n3,Y3,K3,ap3,m3,Z3,y0,y1,y2,y3,-,-,-,-,V3⟩:=h.cells4 (i:=m) (j:=q) (Nat.le_refl m) oM;have z3:zft w (rr m) (q*4) (.bool J3) (.slice ao3 n3 Y3) (.bool K3) (.slice ap3 m3 Z3):=⟨y0,y1,y2,y3,trivial,trivial,trivial,trivial⟩;clear y0 y1 y2 y3;refine zbd (wx:=w) (λb=>b=g2) [vf (.slice (some ⟨rr m,0,none⟩) (q+1) (cr m)),vf (.pointer (some ⟨g,0,none⟩)),vf (.int .i64 (q:Nat)),vf (.pointer (some ⟨rr m,q*4,none⟩)),vf (.agg #[.bool J3,.slice ao3 n3 Y3,.bool K3,.slice ap3 m3 Z3]),vf (.slice (some ⟨gx,0,none⟩) q q),vf (.pointer (some ⟨g,0,none⟩)),vf (.pointer (some ⟨g,0,none⟩)),vf (.pointer (some ⟨g,1,none⟩)),vf (.int .i64 (n:Nat)),vf (.slice (some ⟨gx,0,none⟩) n q),vf (.slice (some ⟨rr m,0,none⟩) (q+1) (cr m)),vf (.pointer (some ⟨g,0,none⟩)),vf (.pointer (some ⟨g,0,none⟩)),vf (.pointer (some ⟨g,1,none⟩)),vf (.int .i64 (n:Nat)),vf (.pointer (some ⟨g,0,none⟩)),vf (.int .i64 (q:Nat)),vf (.slice (some ⟨rr m,n*4,none⟩) (q-n) (cr m-n)),(FK (λb=>b=g2) ((List.range (q-n)).map λi=>some (L m (n+i))) (q-n)),(λW v=>∃ac cc,v=.agg #[.bool J3,.slice ao3 n3 Y3,.bool K3,.slice ap3 m3 Z3,.slice (some ⟨gx,0,none⟩) n q,.slice ac (q-n) cc]/\∀W',zah (λb=>b=g2) W W'->UQ W' ac ((List.range (q-n)).map λi=>some (L m (n+i)))),(λ_ _=>True),vf (.int .i64 0)] [some 81,some 82,some 83,some 84,some 85,some 86,some 87,some 88,some 89,some 90,some 91,some 92,some 93,some 94,some 95,some 96,some 97,some 98,some 99,some 100,some 101,none,some 3] [81,82,83,84,85,86,87,88,89,90,91,92,93,94,95,96,97,98,99,100,101,3] 21 (λW=>TB W B g ga ca gb cb m n q rr cr L bs/\MQ W gx l/\Row W g2 109 [.bool false,.slice none 0 0,.bool false,.slice none 0 0,.slice none 0 0,.slice none 0 0]/\zad W (qA J3 ao3 n3 Y3 K3 ap3 m3 Z3) (L m q)/\zft W (rr m) (q*4) (.bool J3) (.slice ao3 n3 Y3) (.bool K3) (.slice ap3 m3 Z3)) (λW=>∃ac cc,Row W g2 109 [.bool J3,.slice ao3 n3 Y3,.bool K3,.slice ap3 m3 Z3,.slice (some ⟨gx,0,none⟩) n q,.slice ac (q-n) cc]/\UQ W ac ((List.range (q-n)).map λi=>some (L m (n+i)))) dM ⟨h.mono br.drew,hM.mono br.drew,r2.below br.drew,V3.mono br.drew,z3.mono br.drew⟩ (λW W' h hb=>⟨h.1.mono hb,h.2.1.mono hb,h.2.2.1.below hb,h.2.2.2.1.mono hb,h.2.2.2.2.mono hb⟩) (λW W' ⟨ac,cc,h1,h2⟩ hb=>⟨ac,cc,h1.below hb,h2.mono hb⟩) (zah.refl _) ⟨zab _ _,zab _ _,zab _ _,zab _ _,zab _ _,zab _ _,zab _ _,zab _ _,zab _ _,zab _ _,zab _ _,zab _ _,zab _ _,zab _ _,zab _ _,zab _ _,zab _ _,zab _ _,zab _ _,FK.stay,λW W' v ⟨ac,cc,e,h⟩ hk=>⟨ac,cc,e,λW2 hk2=>h W2 (hk.trans hk2)⟩,(λ_ _ _ h _=>h),zab _ _,trivial⟩ ⟨tP,tP,?s2,tP,?s4,tP,tP,tP,tP,?s9,tP,tP,tP,tP,tP,?s15,tP,?s17,tP,?s19,?s20,?s21,?s22,trivial⟩ ?he
 case' s2|s4|s9|s15|s17|s19|s20|s21|s22=>
  rintro T W hk hp hA K hK;simp only[yA,yB,yC,Region.binds]at hA;simp only[sA,hA]at hK|-
 case' s2|s4|s9|s15|s17|s19=>
  have HK:=hii hK;clear hK hA
 case' s4=>
  have hp:=hp (.inr dM);obtain⟨f0,f1,f2,f3,_,_,_,_⟩:=hp.2.2.2.2
 case' s9|s15=>
  have hp:=hp (.inr dM);obtain⟨x0,x1,x2,x3,x4⟩:=hp.1.box.n5
 case s4|s9|s15=>
  exact cV
 case s2|s17=>
  have hp:=hp (.inr dM);refine wO rfl ?_;go_simp;go_fit (zcJ g ga ca gb cb m n q Hq.o hm hn W hp.1.box);rintro e w1⟨rfl,hb1⟩
  try dsimp only
  exact HK.o _ _ ⟨λ_=>hb1,λh=>absurd h dM,.of_below hb1⟩ (rfl)
 case s19=>
  have hp:=hp (.inr dM);refine wO rfl ?_;go_simp;go_fit (zcn ((List.range (q-n)).map λi=>some (L m (n+i))) (q-n) (rr m) (n*4) (cr m-n) W (hii sM) (hii (by simp;omega)) (hii (by simp;omega)) (hp.1.tail oM));rintro e w1⟨⟨v,rfl,ho⟩,hb1⟩;obtain⟨ac,cc,e9,hu⟩:=ho.read;rw[show((List.range (q-n)).map λi=>some (L m (n+i))).length=q-n by simp]at e9;subst e9
  try dsimp only
  exact HK.o _ _ ⟨λ_=>hb1,λh=>absurd h dM,.of_below hb1⟩ (⟨ac,cc,rfl,λW2 hk2=>hu.kept hk2 ((hp.2.2.1.below hb1).noG' (by intro u hu;simp at hu;rcases hu with rfl|rfl|rfl|rfl|rfl|rfl<;>intro k z e<;>cases e)) (by rintro a rfl e;have h1:=(ho.lt a.block rfl).1;have h2:=hp.2.2.1.lt;omega)⟩)
 case s20=>
  have hp:=hp (.inr dM);have r19:=hA.2.2.1;have HK:=hii hK;clear hK hA;obtain⟨ac,cc,e19,h19⟩:=r19;simp only[e19]at HK|-;refine wO rfl ?_;go_simp;exact HK.o _ _ ⟨λ_=>br,λh=>absurd h dM,zah.refl _⟩ (⟨ac,cc,rfl,h19⟩)
 case s21=>
  have hp:=hp (.inl rfl);have r20:=hA.1;have r19:=hA.2.1;have HK:=hii hK;clear hK hA;obtain⟨ac,cc,e20,h20⟩:=r20;obtain⟨c0,c1,c2,c3,c4,c5⟩:=hp.2.2.1.n6;have fz:=hp.2.2.1.free;have H20:=hii h20;clear h20;simp only[e20]at HK|-;refine wO rfl ?_;go_simp;exact HK.o undef _ ⟨λh=>absurd rfl h,λ_=>⟨ac,cc,((((((hp.2.2.1.set 0 _).set 1 _).set 2 _).set 3 _).set 4 _).set 5 _),H20.o _ (((((((zah.refl W:zah (λb=>b=g2) W W).setCell (p:=⟨g2,0,none⟩) rfl _).setCell (p:=⟨g2,1,none⟩) rfl _).setCell (p:=⟨g2,2,none⟩) rfl _).setCell (p:=⟨g2,3,none⟩) rfl _).setCell (p:=⟨g2,4,none⟩) rfl _).setCell (p:=⟨g2,5,none⟩) rfl _)⟩,((((((zah.refl W:zah (λb=>b=g2) W W).setCell (p:=⟨g2,0,none⟩) rfl _).setCell (p:=⟨g2,1,none⟩) rfl _).setCell (p:=⟨g2,2,none⟩) rfl _).setCell (p:=⟨g2,3,none⟩) rfl _).setCell (p:=⟨g2,4,none⟩) rfl _).setCell (p:=⟨g2,5,none⟩) rfl _⟩ (trivial)
 case s22=>
  clear hp;have r19:((FK (λb=>b=g2) ((List.range (q-n)).map λi=>some (L m (n+i))) (q-n)):FW) W (T 100):=hA.2.2.2.2.2.2.2.2.2.2.2.2.2.2.2.2.2.2.2.2.1;have r20:((λW v=>∃ac cc,v=.agg #[.bool J3,.slice ao3 n3 Y3,.bool K3,.slice ap3 m3 Z3,.slice (some ⟨gx,0,none⟩) n q,.slice ac (q-n) cc]/\∀W',zah (λb=>b=g2) W W'->UQ W' ac ((List.range (q-n)).map λi=>some (L m (n+i)))):FW) W (T 101):=hA.2.2.2.2.2.2.2.2.2.2.2.2.2.2.2.2.2.2.2.2.2.1;have HK:=hii hK;clear hK hA;exact cV
 case he=>
  rintro T W hk hR hA;have e22:T 3=.int .i64 0:=hA.at 22 dM;obtain⟨ac,cc,hR1,hR2⟩:=hR;simp only[sA,e22];exact HQ0.o T W _ _ _ _ _ _ _ _ ac cc hR1 hR2 V3 hk
def zpz(A:List (List Rat))(b C:List Rat)(m n:Nat)(w':Wo)(e:Ending):Prop :=
 (∃val X Y vo,e=.returned (.tuple #[vo,.int .i64 0])/\zoB w' vo (some val) (X.map some) (Y.map some)/\zpi A b C m n val X Y) \/
 (∃Z,e=.returned (.tuple #[.agg #[.bool false,.slice none 0 0,.bool false,.slice none 0 0,.slice none 0 0,.slice none 0 0],.int .i64 15])/\zoR A b C m n Z)
theorem zhj{A:List (List Rat)}{b C:List Rat}{m n:Nat}(hv:Prg.err ⟨A.map (·.map some),b.map some,C.map some⟩=0)(hA:A.length=m)(hB:b.length=m)(hC:C.length=n)(aA aB aC:OA)(cA cB cC:Nat)(w:Wo)(uA:UM w aA (A.map (·.map some)))(uB:UQ w aB (b.map some))(uC:UQ w aC (C.map some))(hE:Env w) :
  CP 114 #[.agg #[.slice aA m cA,.slice aB m cB,.slice aC n cC]] w λe w'=>e=.returned (.int .i64 0)/\BH w w':=by
 have h:=zig ⟨A.map (·.map some),b.map some,C.map some⟩ (.agg #[.slice aA m cA,.slice aB m cB,.slice aC n cC]) w ⟨aA,cA,aB,cB,aC,cC,by simp[hA,hB,hC],uA,uB,uC⟩ hE;rw[hv]at h;exact h
theorem zmG{w:Wo}{n:Nat}{J3:Bool}{ao3:OA}{n3 Y3:Nat}{K3:Bool}{ap3:OA}{m3 Z3:Nat}{ac:OA}{cc:Nat}{val:Rat}{X Y:List Rat}(hV:zad w (qA J3 ao3 n3 Y3 K3 ap3 m3 Z3) val)(hX:UQ w (some ⟨gx,0,none⟩) (X.map some))(hY:UQ w ac (Y.map some))(hn:X.length=n)(hk:Y.length=k) :
  zoB w (.agg #[.bool J3,.slice ao3 n3 Y3,.bool K3,.slice ap3 m3 Z3,.slice (some ⟨gx,0,none⟩) n q,.slice ac k cc]) (some val) (X.map some) (Y.map some) :=
 ⟨_,_,_,_,_,_,_,_,_,_,_,_,by rw[List.length_map,List.length_map,hn,hk],hV,hX,hY⟩
theorem zk6(f:Nat->Rat){n:Nat}(h:n<=q):(ptL f q).take n=ptL f n:=by
 unfold ptL;rw[<-List.map_take,List.take_range,Nat.min_eq_left h]
theorem UQ.take{w:Wo}{ao:OA}(h:UQ w ao l)(n:Nat):UQ w ao (l.take n):=by
 intro i o hi;refine h i o ?_;rw[List.getElem?_take]at hi
 split at hi
 ·exact hi
 ·cases hi
theorem zkP(A:List (List Rat))(b C:List Rat)(m n:Nat)(hv:Hid (Prg.err ⟨A.map (·.map some),b.map some,C.map some⟩=0))(hd:Hid (SzD (zbg A b C m n) m n (n+m)))(hA:Hid (A.length=m/\∀r∈A,r.length=n))(hB:Hid (b.length=m/\∀x∈b,0<=x))(hC:Hid (C.length=n))(hm:1<=m/\m<=1000)(hn:1<=n/\n<=1000)(aA aB aC:OA)(cA cB cC:Nat)(w:Wo)(uA:UM w aA (A.map (·.map some)))(uB:UQ w aB (b.map some))(uC:UQ w aC (C.map some))(hE:Env w) :
  CP 66 #[.agg #[.slice aA m cA,.slice aB m cB,.slice aC n cC]] w λe w'=>zpz A b C m n w' e/\BH w w':=by
 have hE0:=hE;go_enter func66,ntmps66;go_upto_region 1 with fail;obtain⟨wx,hwx,r1,r2,hb⟩:=zaH w 105 109 [.slice aA m cA,.slice aB m cB,.slice aC n cC] [.bool false,.slice none 0 0,.bool false,.slice none 0 0,.slice none 0 0,.slice none 0 0];simp only[List.toArray]at hwx;rw[<-hwx];clear hwx;obtain⟨g2,hg2⟩:=exi (w.heap.size+1);have Hg2:Hid (w.heap.size<=g2):=hii oM;rw[<-hg2]at r2|-;clear hg2;obtain⟨g1,hg1⟩:=exi (w.heap.size);rw[<-hg1]at r1|-;clear hg1;obtain⟨w1,rfl⟩:=exi wx;have uA:=uA.mono hb;have uB:=uB.mono hb;have uC:=uC.mono hb;have hE:=hE.mono hb;have hbw:=hb;clear hb;have HV:=hii (zhj hv.o hA.o.1 hB.o.1 hC.o aA aB aC cA cB cC w1 uA uB uC hE);obtain⟨x0,x1,x2⟩:=r1.n3;go_wp2_with fail;go_fit (HV.o);rintro e w2⟨rfl,hb⟩;have uA:=uA.mono hb;have uB:=uB.mono hb;have uC:=uC.mono hb;have hE:=hE.mono hb;have r1:=r1.below hb;have r2:=r2.below hb;have hbw:=bu hbw hb;clear hb HV x0 x1 x2;obtain⟨x0,x1,x2⟩:=r1.n3;have HFe:Hid (Sx.Feas (zbg A b C m n) (zcb A b C m n) (λi=>n+i)):=hii (zi3 hB.o.2);have HB1:Hid (b.length=m):=hii hB.o.1;have Hl2:=hii r2.lt;go_wp2_with fail;go_fit (zlw A b C m n hA HB1 hC hm hn aA aB aC cA cB cC w2 uA uB uC hE);rintro e w3⟨⟨g,ga,ca,gb,cb,rr,cr,rfl,h⟩,hb⟩;obtain⟨B,hBB⟩:=exi (w2.heap.size);rw[<-hBB]at h;have HBB:Hid (w.heap.size<=B):=hii (by rw[hBB];exact hbw.size);have r2:=r2.below hb;have Hg2B:Hid (g2<B):=hii (by rw[hBB];exact Hl2.o);have hbw:=bu hbw hb;clear hb hBB x0 x1 x2 r1 uA uB uC hE;have Hrun:=hii (znV (zbg A b C m n) hd w3 h HFe);go_wp2_with fail;go_fit (Hrun.o);rintro e w4⟨⟨z,L,bs,rfl,HR,h⟩,hb⟩;have r2:=r2.under hb Hg2B.o;have hbw:BH w w4:=hbw.trans (hb.mono HBB.o);clear hb Hrun HFe;rcases HR.o with⟨hF,⟨rfl,hl⟩|⟨k,rfl,hk,hneg,hcol⟩⟩
 ·have HF:=hii hF;have Hl:=hii hl;clear HR hF hl;have hq2:n+m<=2000:=oM;obtain⟨q,hq⟩:∃q,q=n+m:=⟨_,rfl⟩;rw[<-hq]at h hd;have Hq:=hii hq;have hq2:q<=2000:=oM;clear hq;go_wp2_with fail;go_fit (zcJ g ga ca gb cb m n q Hq.o hm.2 hn.2 w4 h.box);rintro e w5⟨rfl,hb⟩;have h:=h.mono hb;have r2:=r2.below hb;have hbw:=bu hbw hb;clear hb;go_wp2_with (at_make;refine zmm w5 rfl _ _ rfl q rfl rfl oM ?_;intro w6 hM hb);obtain⟨gx,hgx⟩:=exi (w5.heap.size);have HgB:Hid (B<=gx/\w.heap.size<=gx):=hii (by have:=h.size;have:=hbw.size;omega);have Hgs:Hid (g≠gx/\ga≠gx/\gb≠gx/\g2≠gx/\∀i,i<=m->rr i≠gx):=hii (by
   have h1:=h.box.lt;have h2:=h.lt;have h3:=h.lowB.2;have h4:=r2.lt;refine⟨oM,oM,oM,oM,λi hi=>?_⟩;have:=(h.lowR hi).2;omega)
  rw[<-hgx]at hM|-;clear hgx;have h:=h.mono hb;have r2:=r2.below hb;have hbw:=bu hbw hb;have hM0:MQ w6 gx (List.replicate 0 (some (0:Rat))++List.replicate (q-0) none):=by simpa using hM
  clear hb hM;go_wp2_with fail;go_loopw [38] (λs wr=>∃k:Nat,k<=q/\s=.int .i64 (k:Nat)/\MQ wr gx (List.replicate k (some (0:Rat))++List.replicate (q-k) none)/\TB wr B g ga ca gb cb m n q rr cr L bs/\Row wr g2 109 [.bool false,.slice none 0 0,.bool false,.slice none 0 0,.slice none 0 0,.slice none 0 0]/\BH w wr) (λs _=>q-(intOf s).toNat)
  case atStart=>exact⟨0,Nat.zero_le _,rfl,hM0,h,r2,hbw⟩
  case round=>
   clear hM0 h r2 hbw;obtain⟨k,hk,rfl,hM,h,r2,hbw⟩:=hrel
   by_cases hlt:k<q
   ·have hE3:=hE0.mono hbw;go_wp2_with fail;go_fit (zeQ wr hE3);rintro e w7⟨hz,hb⟩;obtain⟨J1,ao1,n1,Y1,K1,ap1,m1,Z1,rfl,hv0⟩:=hz.rat;have hM:=hM.mono hb;have h:=h.mono hb;have r2:=r2.below hb;have hbw:=bu hbw hb;clear hb hz hE3;have hlM:k<(List.replicate k (some (0:Rat))++List.replicate (q-k) (none:Qo)).length:=by simp;omega
    obtain⟨_,_,_,_,_,_,_,_,c0,c1,c2,c3,f0,f1,f2,f3,-⟩:=hM.four hlM;obtain⟨hput,hkp⟩:=hM.put (o:=some 0) hlM hv0;rw[zk5 hlt]at hput;have Hput:=hii hput;have Hkp:=hii hkp;have hno:=hM.noG.u;have H2:=hii (h.kept Hkp.o hno (λb e=>by rw[e];exact HgB.o.1) ⟨Hgs.o.1,Hgs.o.2.1,Hgs.o.2.2.1⟩ Hgs.o.2.2.2.2);have r22:=hii (r2.mono Hkp.o Hgs.o.2.2.2.1);clear hput hkp hM hlM hno;go_wp2;go_roundw
    case rel=>exact⟨k+1,oM,gM,Hput.o,H2.o,r22.o,hbw.trans (Hkp.o.below (λb hb=>by rw[hb];exact HgB.o.2) hbw.size)⟩
    case measure=>exact mM
   ·have hke:k=q:=oM;have hM0:MQ wr gx (ptL (pI q L bs 0) q):=by
     rw[<-zmw];rw[hke,Nat.sub_self]at hM
     simpa using hM
    clear hM hke hk;have h0:=h;have r20:=r2;have hb0:=hbw;clear h r2 hbw;obtain⟨x0,x1,x2,x3,x4⟩:=h0.box.n5;obtain⟨wp,rfl⟩:=exi wr;go_wp2_with fail;clear x0 x1 x2 x3 x4;go_loopw [51] (λs wr=>∃i:Nat,i<=m/\s=.int .i64 (i:Nat)/\MQ wr gx (ptL (pI q L bs i) q)/\TB wr B g ga ca gb cb m n q rr cr L bs/\Row wr g2 109 [.bool false,.slice none 0 0,.bool false,.slice none 0 0,.slice none 0 0,.slice none 0 0]/\BH w wr) (λs _=>m-(intOf s).toNat)
    case atStart=>exact⟨0,Nat.zero_le _,rfl,hM0,h0,r20,hb0⟩
    case round=>
     clear hM0 h0 r20 hb0;obtain⟨i,hi,rfl,hM,h,r2,hbw⟩:=hrel
     by_cases hlti:i<m
     ·obtain⟨b0,-⟩:=h.basAt hlti;have hbq:bs i<q:=by
       have h1:=HF.o.inv.bas i hlti;rw[Hq.o];exact h1
      have hno:=hM.noG.u;go_upto_region 19 with fail;refine zpK h hlti (zba _ _) hbq hM ?_;rintro T w7 hM7 hk7;rw[zn7 hlti hbq (λs t hs ht e=>HF.o.inv.inj hs ht e)]at hM7;have h:=h.kept hk7 hno (λb e=>by rw[e];exact HgB.o.1) ⟨Hgs.o.1,Hgs.o.2.1,Hgs.o.2.2.1⟩ Hgs.o.2.2.2.2;have r2:=r2.mono hk7 Hgs.o.2.2.2.1;have hbw:=hbw.trans (hk7.below (λb hb=>by rw[hb];exact HgB.o.2) hbw.size);clear hk7 hM hno b0;go_wp2;go_roundw
      case rel=>exact⟨i+1,oM,gM,hM7,h,r2,hbw⟩
      case measure=>exact mM
     ·have hie:i=m:=oM;rw[hie]at hM;clear hie hi;go_upto_region 21 with fail;refine zpJ h ?_;rintro T w7 hb7;have h:=h.mono hb7;have r2:=r2.below hb7;have hM:=hM.mono hb7;have hbw:=bu hbw hb7;clear hb7;go_upto_region 22 with fail;refine zpI h oM oM hM r2 ?_;rintro T2 w8 J3 ao3 n3 Y3 K3 ap3 m3 Z3 ac cc rO hY V3 hk8;have hno:=r2.noG' (by intro u hu;simp at hu;rcases hu with rfl|rfl|rfl|rfl|rfl|rfl<;>intro k z e<;>cases e);have hM8:=hM.kept hk8 hno (λe=>Hgs.o.2.2.2.1 e.symm);have V8:=V3.kept hk8 hno;have hX:=hM8.read.take n;rw[zk6 _ (by have:=Hq.o;omega)]at hX;have hbw:=hbw.trans (hk8.below (λb hb=>by rw[hb];exact Hg2.o) hbw.size);have HO:Hid (zpi A b C m n (L m q) ((List.range n).map (Sx.pnt (zbg A b C m n) L bs)) ((List.range m).map λi=>L m (n+i))):=hii ⟨L,bs,HF.o,Hl.o,by rw[Hq.o],rfl,rfl⟩;have eX:ptL (pI q L bs m) n=((List.range n).map (Sx.pnt (zbg A b C m n) L bs)).map some:=by
       unfold ptL;rw[List.map_map];refine List.map_congr_left λv _=>?_
       show some (pI q L bs m v)=some (Sx.pnt (zbg A b C m n) L bs v)
       rw[Hq.o];rfl
      have eY:((List.range (q-n)).map λi=>some (L m (n+i)))=((List.range m).map λi=>L m (n+i)).map some:=by
       rw[List.map_map,show q-n=m by have:=Hq.o;omega];rfl
      rw[eX]at hX;rw[eY]at hY;have HOV:=hii (zmG (q:=q) (cc:=cc) (n:=n) (k:=q-n) V8 hX hY (by rw[List.length_map,List.length_range]) (by rw[List.length_map,List.length_range];have:=Hq.o;omega));clear hX hY V3 V8 hM hM8 r2 hk8 hno eX eY;obtain⟨c0,c1,c2,c3,c4,c5⟩:=rO.n6;go_wp2;refine bodyPost_ret (v:=.tuple #[.agg #[.bool J3,.slice ao3 n3 Y3,.bool K3,.slice ap3 m3 Z3,.slice (some ⟨gx,0,none⟩) n q,.slice ac (q-n) cc],.int .i64 0]) (by simp[results,Tryz.results66,go_sem,c0,c1,c2,c3,c4,c5]) rfl ⟨.inl ⟨_,_,_,_,rfl,HOV.o,HO.o⟩,hbw⟩
 ·have HU:Hid (zoR A b C m n ((List.range n).map (Sx.rayv (zbg A b C m n) L bs k))):=hii ⟨L,bs,k,hF,hk,hneg,hcol,rfl⟩;have gk:decide ((0:Int)<=(k:Int))=true:=decide_eq_true oM;clear HR hF hk hneg hcol;obtain⟨d0,d1,d2,d3,d4,d5⟩:=r2.n6;have fz:=r2.free;go_wp2;have q:=((((((r2.set 0 (.bool false)).set 1 (.slice none 0 0)).set 2 (.bool false)).set 3 (.slice none 0 0)).set 4 (.slice none 0 0)).set 5 (.slice none 0 0));obtain⟨c0,c1,c2,c3,c4,c5⟩:=Row.n6 q;have hk9:zah (λb=>b=g2) w4 ((((((w4.setCell ⟨g2,0,none⟩ (.bool false)).setCell ⟨g2,1,none⟩ (.slice none 0 0)).setCell ⟨g2,2,none⟩ (.bool false)).setCell ⟨g2,3,none⟩ (.slice none 0 0)).setCell ⟨g2,4,none⟩ (.slice none 0 0)).setCell ⟨g2,5,none⟩ (.slice none 0 0)) :=
   (((((((zah.refl w4:zah (λb=>b=g2) w4 w4).setCell (p:=⟨g2,0,none⟩) rfl _).setCell (p:=⟨g2,1,none⟩) rfl _).setCell (p:=⟨g2,2,none⟩) rfl _).setCell (p:=⟨g2,3,none⟩) rfl _).setCell (p:=⟨g2,4,none⟩) rfl _).setCell (p:=⟨g2,5,none⟩) rfl _)
  refine bodyPost_ret (v:=.tuple #[.agg #[.bool false,.slice none 0 0,.bool false,.slice none 0 0,.slice none 0 0,.slice none 0 0],.int .i64 15]) (by simp[results,Tryz.results66,go_sem,c0,c1,c2,c3,c4,c5]) rfl ⟨.inr ⟨_,rfl,HU.o⟩,?_⟩;exact hbw.trans (hk9.below (λb e=>by rw[e];exact Hg2.o) hbw.size)
end Go.Proofs.YtfgffkmddanjjaaGreatDoor
