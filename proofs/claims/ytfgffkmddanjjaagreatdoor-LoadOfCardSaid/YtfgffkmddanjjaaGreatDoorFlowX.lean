/-
  A drawn region in which boxes are made and written, each by one store; in the boxes there are no integers.
-/
import Derived.Test.YtfgffkmddanjjaaGreatDoorOQ
set_option linter.unusedVariables false
set_option linter.unusedSimpArgs false
set_option maxRecDepth 100000
set_option maxHeartbeats 25600000
namespace Go.Proofs.YtfgffkmddanjjaaGreatDoor
open _root_.Go.Proofs.Tryz
open Go.RowKit
variable {k:Int} {a d v va vb:Vl}
section
variable {P : Program} {ops : Array Oper} {Q : Exit → Act → Wo → Prop}
theorem NoG.below{G:Nat->Prop}{W W':Wo}(h:NoG G W)(hg:∀b,G b->b<W.heap.size)(hb:BH W W'):NoG G W' :=
 λg hG cur t fr hc=>h g hG cur t fr ((hb.block g (hg g hG)).symm.trans hc)
def zlK(sup:LN)(F:zef):Prop:=∀(G G':Nat->Prop)(X X':Nat->Vl)(W W':Wo),F G X W->zah G W W'->NoG G W->(∀b,b<W.heap.size->G' b->G b)->(∀j∈sup,X' j=X j)->F G' X' W'
theorem zaa(k:Nat)(r:LN)(u:Vl):zlK (k :: r) (λ_ X _=>X k=u):=λ_ _ _ _ _ _ h _ _ _ hX=>(hX k sM).trans h
theorem zaj(sup:LN):zlK sup (λ_ _ _=>True):=λ_ _ _ _ _ _ h _ _ _ _=>h
theorem zaq{ops:Array Oper}{k:Nat}{F:FV}(h:∀(G G':Nat->Prop)(W W':Wo)(v:Vl),F G W v->zah G W W'->NoG G W->(∀b,b<W.heap.size->G' b->G b)->F G' W' v):zlK (zeR ops k) (λG X W=>F G W (X k)) :=
 λG G' X X' W W' hf hk hn hg hX=>by
  have:=h G G' W W' _ hf hk hn hg
  show F G' W' (X' k)
  rw[hX k (by simp[zeR])];exact this
def zoI(ops:Array Oper):Nat->List zef->Prop
 |_,[]=>True
 |k,F :: r=>zlK (zeR ops k) F/\zoI ops (k+1) r
theorem zoI.get{ops:Array Oper}:∀{l:List zef} (j k:Nat),zoI ops j l->zlK (zeR ops (j+k)) (l.getD k λ_ _ _=>True)
 |[],_,_,_=>zaj _
 |_ :: _,_,0,h=>h.1
 |_ :: r,j,k+1,h=>by have:=zoI.get (l:=r) (j+1) k h.2;rw[show j+(k+1)=j+1+k by omega];exact this
def zma(v:Vl)(n:Nat)(vs:List Vl):Prop:=Sto v vs/\vs.length=n
def FQ(r:Rat)(_:Nat->Prop)(W:Wo)(v:Vl):Prop:=zad W v r
theorem zaQ{ops:Array Oper}{k:Nat}(r:Rat):zlK (zeR ops k) (λG X W=>FQ r G W (X k)):=zaq λG G' W W' v (h:zad W v r) hk hn _=>h.kept hk hn
theorem zan{id:Nat}{a:Act}{w wx:Wo}(H:Nat->Prop)(Fs:List zef)(ds:List (Option Nat))(al:List (Option Fb))(dl:LN)

  (hz:zby (λ_ fb=>∀u∈fb.z,zaJ u) 0 al) (hH0:∀b,¬H b) (hw:BH wx w) (hS:zoI ops 0 Fs)
  (hT:zby (λi fb=>(∀G X W,(Fs.getD i λ_ _ _=>True) G X W)/\∀G X W,(Fs.getD fb.st λ_ _ _=>True) G X W) 0 al)
  (hs:zaO (λi o=>zn8 al i=true->∀(G:Nat->Prop)(T:Nat->Vl)(W:Wo),BH wx W->(∀b,H b->G b)->(∀b,G b->b<W.heap.size)->(∀b,b<wx.heap.size->G b->H b)->NoG G W->zfv Fs G (dv ds T) W (zaV .any o) ->
   ∀K:Act->Wo->Prop,(∀v W',BH W W'->(∀X:Nat->Vl,X i=(o.dst.map λ_=>v).getD undef->(∀j,j≠i->X j=dv ds T j)->(Fs.getD i λ_ _ _=>True) G X W')->K (({a with tmps:=ovr a.tmps T dl}:Act).put o.dst v) W') ->
    wpOp P ops Q i K {a with tmps:=ovr a.tmps T dl} W) 0 ops.toList)
  (hB:zby (λj fb=>(∀o,ops[j]?=some o->∀(T:Nat->Vl)(W:Wo)(K:Act->Wo->Prop),K (({a with tmps:=ovr a.tmps T dl}:Act).put o.dst (.pointer (some ⟨W.heap.size,0,none⟩))) (W.alloc (.cells fb.z.toArray fb.E))->wpOp P ops Q j K {a with tmps:=ovr a.tmps T dl} W) /\
   (∀o,ops[fb.st]?=some o->∀(G:Nat->Prop)(T:Nat->Vl)(W:Wo)(n:Nat),zfv Fs G (dv ds T) W (zaV .any o)->dv ds T j=.pointer (sD n 0)->Row W n fb.E fb.z->∀K:Act->Wo->Prop,(∀vs,Sto (dv ds T fb.src) vs->vs.length=fb.z.length->(∀u∈vs,zaJ u)->K {a with tmps:=ovr a.tmps T dl} (zmD W n 0 vs))->wpOp P ops Q fb.st K {a with tmps:=ovr a.tmps T dl} W)) 0 al)
  (he:∀(G:Nat->Prop)(N:Nat->Nat) T W,BH wx W->(∀b,H b->G b)->(∀b,G b->b<W.heap.size)->(∀b,b<wx.heap.size->G b->H b) ->
   (∀i fb,al.getD i none=some fb->dv ds T i=.pointer (some ⟨N i,0,none⟩)/\G (N i)/\wx.heap.size<=N i/\∃vs,zma (dv ds T fb.src) fb.z.length vs/\Row W (N i) fb.E vs) ->
   NoG G W->(∀i j fb fc,al.getD i none=some fb->al.getD j none=some fc->i≠j->N i≠N j)->zfv Fs G (dv ds T) W (List.range ops.size)->Q .normal {a with tmps:=ovr a.tmps T dl} W)
  (hm:P.follows .mixedOrders=true:=by kernel_rfl) (ht:zkF .any ops=true:=by kernel_rfl) (hd:ops.toList.map (·.dst)=ds:=by kernel_rfl) (hdl:ds.filterMap (λx=>x)=dl:=by kernel_rfl) (hnd:dl.Nodup:=by exact of_decide_eq_true (by kernel_rfl)) (hok:zcu al ops=true:=by kernel_rfl):(Code.region id ops true).wp P Q a w:=by
 have hnd':(ds.filterMap _root_.id).Nodup:=by
  have:ds.filterMap _root_.id=dl:=hdl;rw[this];exact hnd
 have hdst:∀(i:Nat)(o:Oper),ops[i]?=some o->i<ops.size/\o.dst=ds.getD i none:=by
  intro i o ho;have hi:i<ops.size:=(Array.getElem?_eq_some_iff.1 ho).1;refine⟨hi,?_⟩;have h1:(ops.toList.map (·.dst))[i]?=some o.dst:=by simp[ho]
  rw[hd]at h1;rw[List.getD_eq_getElem?_getD,h1];rfl
 refine zcv (λL T W=>∃(G:Nat->Prop)(N:Nat->Nat),(∀b,G b->b<W.heap.size)/\(∀b,H b->G b)/\(∀b,b<wx.heap.size->G b->H b)/\NoG G W/\BH wx W /\
  (∀i fb,al.getD i none=some fb->L i->dv ds T i=.pointer (some ⟨N i,0,none⟩)/\G (N i)/\wx.heap.size<=N i/\N i<W.heap.size/\(¬L fb.st->Row W (N i) fb.E fb.z)/\(L fb.st->L fb.src/\∃vs,zma (dv ds T fb.src) fb.z.length vs/\Row W (N i) fb.E vs)) /\
  (∀i j fb fc,al.getD i none=some fb->al.getD j none=some fc->L i->L j->i≠j->N i≠N j) /\
  (∀i fb,al.getD i none=some fb->L fb.st->L i) /\
  (∀k o,ops[k]?=some o->L k->∀j∈zaV .any o,L j) /\
  ∀k,k<ops.size->L k->(Fs.getD k λ_ _ _=>True) G (dv ds T) W) dl hm ht ?_
  (λT=>⟨H,λ_=>0,λb hb=>absurd hb (hH0 b),λ_ h=>h,λ_ _ h=>h,λb hb=>absurd hb (hH0 b),hw.drew,λ_ _ _ h=>h.elim,λ_ _ _ _ _ _ h=>h.elim,λ_ _ _ h=>h.elim,λ_ _ _ h=>h.elim,λk _ h=>h.elim⟩) ?_ ?_ ?_
 ·unfold znH;rw[<-hdl,<-hd];simp[List.filterMap_map]
  rfl
 ·refine zaO.imp ops.toList 0 (λk o ho h=>?_) hs;rw[Nat.zero_add]at h|-;have hko:ops[k]?=some o:=by simpa using ho
  rintro L T W hL hn⟨G,N,g1,g2,g3,hG,hb,hN,hD,hLL,hW,hJ⟩K hK;obtain⟨hkl,hkd⟩:=hdst k o hko;have hall:∀d,d∈zaV .any o->L d:=by
   have:∀l:LN,zea L l->∀d,d∈l->L d:=by
    intro l
    induction l with
    |nil=>intro _ d hd;simp at hd
    |cons x r ih=>
     intro h d hd;rcases List.mem_cons.1 hd with rfl|hd
     ·exact h.1
     ·exact ih h.2 d hd
   exact this _ hL
  have hA:zfv Fs G (dv ds T) W (zaV .any o):=zfv.mem λd hdw=>hJ d (Nat.lt_trans (zca ht hko hdw) hkl) (hall d hdw)
  have same:∀v j,j≠k->dv ds (zcw T o.dst v) j=dv ds T j:=by
   intro v j hjk;unfold dv
   cases hdj:ds.getD j none with
   |none=>rfl
   |some d=>
    cases hdo:o.dst with
    |none=>rfl
    |some d'=>
     have hne:d≠d':=λe=>by
      exact eN
     simp[zcw,upd,hne]
  have own:∀v,dv ds (zcw T o.dst v) k=(o.dst.map λ_=>v).getD undef:=by
   intro v;unfold dv;rw[<-hkd]
   cases hdo:o.dst with
   |none=>rfl
   |some d=>simp[zcw,upd]
  have hS':∀j,zlK (zeR ops j) (Fs.getD j λ_ _ _=>True):=λj=>by have:=hS.get 0 j;rwa [Nat.zero_add]at this
  have hsup:∀v j,j<ops.size->L j->∀x∈zeR ops j,dv ds (zcw T o.dst v) x=dv ds T x:=by
   intro v j hj hLj x hx;refine same v x λe=>hn (e▸?_)
   rcases List.mem_cons.1 hx with rfl|hx
   ·exact hLj
   ·rw[Array.getElem?_eq_getElem hj]at hx;exact hW j _ (Array.getElem?_eq_getElem hj) hLj x hx
  have hWn:∀(v:Vl) i o',ops[i]?=some o'->(i=k\/L i)->∀j∈zaV .any o',j=k\/L j:=by
   rintro v i o' ho' (rfl|hLi) j hj
   ·rw[hko]at ho';cases ho';exact .inr (hall j hj)
   ·exact .inr (hW i o' ho' hLi j hj)
  by_cases hst:∃j fb,al.getD j none=some fb/\fb.st=k
  ·-- a store
   obtain⟨j,fb,hj,rfl⟩:=hst;obtain⟨q1,q2,q3,q4,q5,q6,q7,q8⟩:=zcu.get hok hj;obtain⟨w1,w2,w3⟩:=q4 o hko;obtain⟨p1,p2,p3,p4,p5,p6⟩:=hN j fb hj (hall j w1);refine(hB.get hj).2 o hko G T W (N j) hA p1 (p5 hn) K λvs hvs hvl hvn=>?_
   have hrow:=zhF vs fb.z [] W (p5 hn) hvl;have hkp:=zfV (N j) vs 0 W;have hkG:zah G W (zmD W (N j) 0 vs):=hkp.wide λb e=>e▸p2
   have hKK:=hK undef (zmD W (N j) 0 vs);rw[w3]at hKK;have hGn:NoG G (zmD W (N j) 0 vs):=by
    intro g hg cur t fr hc
    by_cases hgj:g=N j
    ·rw[hgj]at hc;have:=hrow.symm.trans hc;simp only[List.nil_append,Option.some.injEq,Obj.cells.injEq]at this;obtain⟨rfl,_,_⟩:=this;exact hvn
    ·exact hG g hg cur t fr ((hkp.block g (g1 g hg) hgj).symm.trans hc)
   refine hKK ⟨G,N,λb hb'=>Nat.lt_of_lt_of_le (g1 b hb') hkp.size,g2,g3,hGn,hb.trans (hkp.below (λb e=>e▸p3) hb.size),?_,?_,?_,?_,?_⟩
   ·intro i fc hi hLi;have hLi':L i:=hLi.resolve_left λe=>by rw[e]at hi;rw[q6]at hi;cases hi
    obtain⟨r1,r2,r3,r4,r5,r6⟩:=hN i fc hi hLi';have e:∀x,dv ds (zcw T none undef) x=dv ds T x:=λx=>rfl
    refine⟨r1,r2,r3,Nat.lt_of_lt_of_le r4 hkp.size,?_,?_⟩
    ·intro hns;have hij:i≠j:=λe=>by
      subst e;rw[hj]at hi;cases hi;exact hns (.inl rfl)
     exact(r5 λh=>hns (.inr h)).mono hkp (hD i j fc fb hi hj hLi' (hall j w1) hij)
    ·rintro(hs'|hs')
     ·have hij:i=j:=Classical.byContradiction λhne=>(zcu.get hok hi).2.2.2.2.2.2.2 j fb hj hne hs'
      subst hij;rw[hj]at hi;cases hi;exact⟨.inr (hall _ w2),vs,⟨hvs,hvl⟩,by simpa using hrow⟩
     ·have hij:i≠j:=λe=>by subst e;rw[hj]at hi;cases hi;exact hn hs'
      obtain⟨z1,vs',z2,z3⟩:=r6 hs';exact⟨.inr z1,vs',z2,z3.mono hkp (hD i j fc fb hi hj hLi' (hall j w1) hij)⟩
   ·intro i i' fc fd hi hi' hLi hLi';exact hD i i' fc fd hi hi' (hLi.resolve_left λe=>by rw[e]at hi;rw[q6]at hi;cases hi) (hLi'.resolve_left λe=>by rw[e]at hi';rw[q6]at hi';cases hi')
   ·rintro i fc hi (hs'|hs')
    ·have hij:i=j:=Classical.byContradiction λhne=>(zcu.get hok hi).2.2.2.2.2.2.2 j fb hj hne hs'
     subst hij;exact .inr (hall _ w1)
    ·exact .inr (hLL i fc hi hs')
   ·exact λi o' ho' hLi=>hWn undef i o' ho' hLi
   ·rintro x hx (rfl|hLx)
    ·exact(hT.get hj).2 _ _ _
    ·exact hS' x G G _ _ W _ (hJ x hx hLx) hkG hG (λ_ _ h=>h) λ_ _=>rfl
  ·cases hak:al.getD k none with
   |some fb=>
    obtain⟨q1,q2,q3,q4,⟨p,q5⟩,q6,q7,q8⟩:=zcu.get hok hak;have hop:=q5 o hko;refine(hB.get hak).1 o hko T W K ?_;have hba:=bA W (.cells fb.z.toArray fb.E);have hsz:(W.alloc (.cells fb.z.toArray fb.E)).heap.size=W.heap.size+1:=sM;have hKb:zah G W (W.alloc (.cells fb.z.toArray fb.E)):=zah.of_below hba;have hL':∀b,b<W.heap.size->(G b\/b=W.heap.size)->G b:=λb hlt hh=>hh.resolve_right oM
    obtain⟨N',hNk,hNo⟩:∃N':Nat->Nat,N' k=W.heap.size/\∀x,x≠k->N' x=N x:=⟨λx=>if x=k then W.heap.size else N x,if_pos rfl,λx hx=>if_neg hx⟩;have hGn:NoG (λb=>G b\/b=W.heap.size) (W.alloc (.cells fb.z.toArray fb.E)):=by
     rintro g (hg|rfl) cur t fr hc
     ·exact hG g hg cur t fr ((hba.block g (g1 g hg)).symm.trans hc)
     ·have:=(heap_alloc_new W (.cells fb.z.toArray fb.E)).symm.trans hc;simp only[Option.some.injEq,Obj.cells.injEq]at this;obtain⟨rfl,_,_⟩:=this;exact hz.get hak
    refine hK _ _ ⟨λb=>G b\/b=W.heap.size,N',?_,λb hb'=>.inl (g2 b hb'),λb hlt hh=>g3 b hlt (hh.resolve_right (by have:=hb.size;omega)),hGn,bu hb hba,?_,?_,?_,?_,?_⟩
    ·rintro b (hb'|rfl)
     ·have:=g1 b hb';omega
     ·omega
    ·intro i fc hi hLi
     by_cases hik:i=k
     ·subst hik;rw[hak]at hi;cases hi;refine⟨by rw[own,hop,hNk];rfl,.inr hNk,by rw[hNk];exact hb.size,by rw[hNk];omega,λ_=>?_,λhs'=>?_⟩
      ·rw[hNk];exact heap_alloc_new _ _
      ·rcases hs' with hs'|hs'
       ·rw[hs']at q6;rw[hak]at q6;cases q6
       ·exact absurd (hLL _ _ hak hs') hn
     ·have hLi':=hLi.resolve_left hik;obtain⟨r1,r2,r3,r4,r5,r6⟩:=hN i fc hi hLi';obtain⟨_,_,_,_,_,s6,s7,_⟩:=zcu.get hok hi;have hstk:fc.st≠k:=λe=>by rw[e]at s6;rw[hak]at s6;cases s6
      have hsrck:fc.src≠k:=λe=>by rw[e]at s7;rw[hak]at s7;cases s7
      refine⟨by rw[same _ _ hik,hNo _ hik];exact r1,.inl (by rw[hNo _ hik];exact r2),by rw[hNo _ hik];exact r3,by rw[hNo _ hik];omega,λhns=>?_,λhs'=>?_⟩
      ·rw[hNo _ hik];exact(r5 λh=>hns (.inr h)).below hba
      ·obtain⟨z1,vs',z2,z3⟩:=r6 (hs'.resolve_left hstk);rw[hNo _ hik];exact⟨.inr z1,vs',by rw[same _ _ hsrck];exact z2,z3.below hba⟩
    ·intro i j fc fd hi hj hLi hLj hij
     by_cases hik:i=k
     ·have hjk:j≠k:=λe=>hij (hik.trans e.symm)
      rw[hik,hNk,hNo _ hjk];have:=(hN j fd hj (hLj.resolve_left hjk)).2.2.2.1;omega
     ·rw[hNo _ hik];have h4:=(hN i fc hi (hLi.resolve_left hik)).2.2.2.1
      by_cases hjk:j=k
      ·rw[hjk,hNk];omega
      ·rw[hNo _ hjk];exact hD i j fc fd hi hj (hLi.resolve_left hik) (hLj.resolve_left hjk) hij
    ·intro i fc hi hs';obtain⟨_,_,_,_,_,s6,_,_⟩:=zcu.get hok hi;have hstk:fc.st≠k:=λe=>by rw[e]at s6;rw[hak]at s6;cases s6
     exact .inr (hLL i fc hi (hs'.resolve_left hstk))
    ·exact λi o' ho' hLi=>hWn bF_ i o' ho' hLi
    ·intro x hx hLx
     by_cases hxk:x=k
     ·subst hxk;exact(hT.get hak).1 _ _ _
     ·exact hS' x G _ _ _ W _ (hJ x hx (hLx.resolve_left hxk)) hKb hG hL' (hsup _ x hx (hLx.resolve_left hxk))
   |none=>
    refine h (zn8.mk hak λj fb hj e=>hst ⟨j,fb,hj,e⟩) G T W hb g2 g1 g3 hG hA K λv W' hb' hv=>hK v W' ⟨G,N,λb h=>Nat.lt_of_lt_of_le (g1 b h) hb'.size,g2,g3,hG.below g1 hb',Below.step hb hb' nl,?_,?_,?_,?_,?_⟩
    ·intro i fc hi hLi;have hik:i≠k:=λe=>by rw[e]at hi;rw[hak]at hi;cases hi
     have hLi':=hLi.resolve_left hik;obtain⟨r1,r2,r3,r4,r5,r6⟩:=hN i fc hi hLi';have hstk:fc.st≠k:=λe=>hst ⟨i,fc,hi,e⟩
     refine⟨by rw[same _ _ hik];exact r1,r2,r3,Nat.lt_of_lt_of_le r4 hb'.size,λhns=>(r5 λh=>hns (.inr h)).below hb',λhs'=>?_⟩;obtain⟨z1,vs',z2,z3⟩:=r6 (hs'.resolve_left hstk);have hsrck:fc.src≠k:=λe=>hn (e▸z1)
     exact⟨.inr z1,vs',by rw[same _ _ hsrck];exact z2,z3.below hb'⟩
    ·intro i j fc fd hi hj hLi hLj hij;have hik:i≠k:=λe=>by rw[e]at hi;rw[hak]at hi;cases hi
     have hjk:j≠k:=λe=>by rw[e]at hj;rw[hak]at hj;cases hj
     exact hD i j fc fd hi hj (hLi.resolve_left hik) (hLj.resolve_left hjk) hij
    ·intro i fc hi hs';have hstk:fc.st≠k:=λe=>hst ⟨i,fc,hi,e⟩
     exact .inr (hLL i fc hi (hs'.resolve_left hstk))
    ·exact λi o' ho' hLi=>hWn v i o' ho' hLi
    ·intro x hx hLx
     by_cases hxk:x=k
     ·subst hxk;exact hv _ (own v) λj hj=>same v j hj
     ·exact hS' x G G _ _ W W' (hJ x hx (hLx.resolve_left hxk)) (zah.of_below hb') hG (λ_ _ h=>h) (hsup _ x hx (hLx.resolve_left hxk))
 ·rintro T W⟨G,N,g1,g2,g3,hG,hb,hN,hD,hLL,hW,hJ⟩;refine he G N T W hb g2 g1 g3 ?_ hG ?_ (zfv.mem λk hk=>hJ k (by simpa using hk) (by simpa using hk))
  ·intro i fb hi;obtain⟨q1,q2,q3,_⟩:=zcu.get hok hi;obtain⟨r1,r2,r3,r4,r5,r6⟩:=hN i fb hi q1;exact⟨r1,r2,r3,(r6 q2).2⟩
  ·intro i j fb fc hi hj hij;exact hD i j fb fc hi hj (zcu.get hok hi).1 (zcu.get hok hj).1 hij
 ·rintro L T W hL⟨G,N,g1,g2,g3,hG,hb,hN,hD,hLL,hW,hJ⟩;refine⟨G,N,g1,g2,g3,hG,hb,?_,?_,λi fb hi _=>(zcu.get hok hi).1,λk o hk _ j hj=>Nat.lt_trans (zca ht hk hj) (Array.getElem?_eq_some_iff.1 hk).1,λk hk _=>hJ k hk (hL k hk)⟩
  ·intro i fb hi _;obtain⟨q1,q2,q3,_⟩:=zcu.get hok hi;obtain⟨r1,r2,r3,r4,r5,r6⟩:=hN i fb hi (hL i q1);exact⟨r1,r2,r3,r4,λh=>absurd q2 h,λ_=>⟨q3,(r6 (hL _ q2)).2⟩⟩
  ·intro i j fb fc hi hj _ _ hij;exact hD i j fb fc hi hj (hL i (zcu.get hok hi).1) (hL j (zcu.get hok hj).1) hij
end
theorem Row.box4{w:Wo}{g:Nat}{E:TypeId}{b c:Vl}(h:Row w g E [a,b,c,d]):zaU w g a b c d :=
 ⟨h.cell (k:=0) sM,h.cell (k:=1) sM,h.cell (k:=2) sM,h.cell (k:=3) sM,h.free 0,h.free 1,h.free 2,h.free 3⟩
theorem zad.put4B{w:Wo}{n c1 d1 c2 d2:Nat}{b1 b2:Bool}{s1 s2:OA}{u:Vl}{r:Rat}(hB:zaU w n (.bool b1) (.slice s1 c1 d1) (.bool b2) (.slice s2 c2 d2))(h:zad w u r)(x0 x1 x2 x3:Vl) :
  zad ((((w.setCell (aD_ n 0) x0).setCell (aD_ n 1) x1).setCell (aD_ n 2) x2).setCell (aD_ n 3) x3) u r:=by
 obtain⟨n1,a1,l1,c1,n2,a2,l2,c2,e,h1,h2⟩:=h;exact⟨n1,a1,l1,c1,n2,a2,l2,c2,e,h1.put4B hB _ _ _ _,h2.put4B hB _ _ _ _⟩
theorem zb3.of{w':Wo}{r:Rat}(h:zad w' v r):zb3 w' r (.returned (.tuple #[v,.int .i64 0])):=by
 obtain⟨n1,a1,l1,c1,n2,a2,l2,c2,rfl,h1,h2⟩:=h;exact⟨n1,a1,l1,c1,n2,a2,l2,c2,rfl,hii h1,hii h2⟩
theorem zma.four{b c:Vl}{vs:List Vl}(h:zma v 4 vs)(e:v=.agg #[a,b,c,d]):vs=[a,b,c,d]:=by
 rcases h.1 with h1|h1
 ·rw[e]at h1;simp only[Value.agg.injEq]at h1;have:=congrArg Array.toList h1
  simpa using this.symm
 ·have:=h.2;rw[h1]at this;simp at this
def PQ(k:Int)(r:Rat)(W:Wo)(v:Vl):Prop :=
 ∃(n1:Bool)(a1:OA)(l1 c1:Nat)(n2:Bool)(a2:OA)(l2 c2:Nat),v=.agg #[.bool n1,.slice a1 l1 c1,.bool n2,.slice a2 l2 c2]/\(k=0->zad W v r)
theorem PQ.kept{G:Nat->Prop}{r:Rat}{W W':Wo}(h:PQ k r W v)(hk:zah G W W')(hn:NoG G W):PQ k r W' v:=by
 obtain⟨n1,a1,l1,c1,n2,a2,l2,c2,e,h1⟩:=h;exact⟨n1,a1,l1,c1,n2,a2,l2,c2,e,λh=>(h1 h).kept hk hn⟩
theorem zpk{a b:Rat}{w:Wo}(ha:zad w va a)(hb:zad w vb b)(hk:Hid (KQ k (zeN a b)))(hE:Env w) :
  CP 69 #[va,vb] w λe w'=>(∃v,e=.returned (.tuple #[v,.int .i64 k])/\PQ k (a*b) w' v)/\BH w w' :=
 (znq va vb a b k w ha hb hk hE).mono λe w' ⟨⟨n1,a1,l1,c1,n2,a2,l2,c2,e1,h1,h2,_⟩,hb⟩=>⟨⟨_,e1,n1,a1,l1,c1,n2,a2,l2,c2,rfl,λh=>by subst h;exact zad.mk' h1 h2⟩,hb⟩
theorem zpr{a b:Rat}{w:Wo}(ha:zad w va a)(hb:zad w vb b)(hk:Hid (KQ k (zcI a b)))(hE:Env w) :
  CP 49 #[va,vb] w λe w'=>(∃v,e=.returned (.tuple #[v,.int .i64 k])/\PQ k (a+b) w' v)/\BH w w' :=
 (znB va vb a b k w ha hb hk hE).mono λe w' ⟨⟨n1,a1,l1,c1,n2,a2,l2,c2,e1,h1,h2,_⟩,hb⟩=>⟨⟨_,e1,n1,a1,l1,c1,n2,a2,l2,c2,rfl,λh=>by subst h;exact zad.mk' h1 h2⟩,hb⟩
theorem znx(la lb:List Rat)(o:Option Rat)(aa ab:OA)(ca cb:Nat)(w:Wo)(hm:la.length<=1000000000)(hl:la.length=lb.length)(ua:UQ w aa (la.map some))(ub:UQ w ab (lb.map some))(hD:Hid (ziS 0 la lb o))(hE:Env w) :
  CP 126 #[.slice aa la.length ca,.slice ab lb.length cb] w λe w'=>zmd o w' e/\BH w w':=by
 have hlb:lb.length<=1000000000:=oM;have hne:((la.length:Int) != lb.length)=false:=by rw[bne_eq_false_iff_eq];omega
 have hl1:la.length<=lb.length:=oM;have hl2:lb.length<=la.length:=oM;clear hl;have hE00:=hE;have hbw:=Below.refl w.heap.size w;go_enter func126,ntmps126;go_upto_region 1 with fail;have X4:=zaU.new w bF_ nS_ bF_ nS_ 32;have hb:=bA w (.cells #[bF_,nS_,bF_,nS_] 32);generalize w.alloc (.cells #[bF_,nS_,bF_,nS_] 32)=v1 at*;have hE:=hE.mono hb;have hbw:=bu hbw hb;clear hb;go_wp2_with fail;go_loopw [19] (λs wr=>∃k:Nat,k<=la.length/\s=.int .i64 k/\zaU wr w.heap.size bF_ nS_ bF_ nS_/\Env wr/\BH w wr) (λs _=>la.length-(intOf s).toNat)
 case atStart=>exact⟨0,Nat.zero_le _,rfl,X4,hE,hbw⟩
 case round=>
  clear X4 hE hbw;obtain⟨k,hk,rfl,X4,hE,hbw⟩:=hrel
  by_cases hlt:k<la.length
  ·have hltb:k<lb.length:=oM;obtain⟨ra,hra⟩:∃x,la[k]?=some x:=⟨la[k],gE hlt⟩;obtain⟨rb,hrb⟩:∃x,lb[k]?=some x:=⟨lb[k],gE hltb⟩;obtain⟨b1,off1,ngp,aop,np,capp,ngq,aoq,nq,capq,ea,FA,HVA⟩:=(ua.mono hbw) k (some ra) (by simp[hra]);obtain⟨b2,off2,ngr,aor,nr,capr,ngs,aos,ns,caps,eb,FB,HVB⟩:=(ub.mono hbw) k (some rb) (by simp[hrb]);have VA:VQ wr _ true:=zad.vq HVA;have VB:VQ wr _ true:=zad.vq HVB;clear hra hrb HVA HVB ua ub;subst ea;subst eb;obtain⟨c0,c1,c2,c3,_,_,_,_⟩:=id FA;go_wp2_with fail;go_fit (zfr _ true wr VA hE);rintro e v2⟨rfl,hb⟩;have VB:=VB.mono hb;have FB:=FB.mono hb;have X4:=X4.mono hb;have hE:=hE.mono hb;have hbw:=bu hbw hb;clear hb c0 c1 c2 c3;obtain⟨c0,c1,c2,c3,_,_,_,_⟩:=id FB;go_wp2_with fail;go_fit (zfr _ true v2 VB hE);rintro e v3⟨rfl,hb⟩;have X4:=X4.mono hb;have hE:=hE.mono hb;have hbw:=bu hbw hb;clear hb c0 c1 c2 c3;go_wp2;go_roundw
   case rel=>exact⟨k+1,oM,gM,X4,hE,hbw⟩
   case measure=>exact mM
  ·obtain rfl:k=la.length:=oM;have hsz:=hbw.size;go_wp2_with fail;go_fit (zgR wr hE);rintro e v2⟨⟨ngf,aof,nf,capf,rfl,HVf⟩,hb⟩;have HV:zad v2 (qA false none 0 0 ngf aof nf capf) 0:=⟨_,_,_,_,_,_,_,_,rfl,zai.zero _,HVf.o⟩;clear HVf;have X4:=X4.mono hb;have hE:=hE.mono hb;have hbw:=bu hbw hb;clear hb;go_upto_region 10 with fail;have lX:=X4.lt;have X7:=zaU.new v2 bF_ nS_ (.bool ngf) (.slice aof nf capf) 32;have hb:=bA v2 (.cells #[bF_,nS_,.bool ngf,.slice aof nf capf] 32);generalize v2.alloc (.cells #[bF_,nS_,.bool ngf,.slice aof nf capf] 32)=v3 at*;have X4:=X4.mono hb;have HV:=HV.mono hb;have hE:=hE.mono hb;have hbw:=bu hbw hb;clear hb;obtain⟨g7,hg7⟩:∃g,g=v2.heap.size:=⟨_,rfl⟩;rw[<-hg7]at X7|-;have lg7:w.heap.size<g7:=by rw[hg7];exact lX
   clear hg7 lX;go_wp2_with fail;go_loopw [42] (λs wr=>∃(k:Nat)(acc:Rat),k<=la.length/\s=.int .i64 k/\Hid (ziS acc (la.drop k) (lb.drop k) o)/\(∃(n1:Bool)(a1:OA)(l1 c1:Nat)(n2:Bool)(a2:OA)(l2 c2:Nat),zaU wr g7 (.bool n1) (.slice a1 l1 c1) (.bool n2) (.slice a2 l2 c2)/\zad wr (qA n1 a1 l1 c1 n2 a2 l2 c2) acc)/\zaU wr w.heap.size bF_ nS_ bF_ nS_/\Env wr/\BH w wr) (λs _=>la.length-(intOf s).toNat)
   case atStart=>exact⟨0,0,Nat.zero_le _,rfl,hD,⟨_,_,_,_,_,_,_,_,X7,HV⟩,X4,hE,hbw⟩
   case round=>
    clear X4 X7 HV hE hbw hsz;obtain⟨k,acc,hk,rfl,HD,⟨nge,aoe,ne,cape,ngf,aof,nf,capf,X7,HV⟩,X4,hE,hbw⟩:=hrel
    by_cases hlt:k<la.length
    ·have hltb:k<lb.length:=oM;obtain⟨ra,hra⟩:∃x,la[k]?=some x:=⟨la[k],gE hlt⟩;obtain⟨rb,hrb⟩:∃x,lb[k]?=some x:=⟨lb[k],gE hltb⟩;have HD2:Hid ((zeN ra rb/\zcI acc (ra*rb)/\ziS (acc+ra*rb) (la.drop (k+1)) (lb.drop (k+1)) o)\/(¬(zeN ra rb/\zcI acc (ra*rb))/\o=none)):=hii (by have h:=HD.o;rw[zjW hra,zjW hrb]at h;exact h);obtain⟨b1,off1,ngp,aop,np,capp,ngq,aoq,nq,capq,ea,FA,HA⟩:=(ua.mono hbw) k (some ra) (by simp[hra]);obtain⟨b2,off2,ngr,aor,nr,capr,ngs,aos,ns,caps,eb,FB,HB⟩:=(ub.mono hbw) k (some rb) (by simp[hrb]);have HA:zad wr _ ra:=HA;have HB:zad wr _ rb:=HB;clear hra hrb ua ub HD;subst ea;subst eb;obtain⟨kk,hkk⟩:=KQ.ex (zeN ra rb);have HKK:=hii hkk;clear hkk;go_upto_region 13 with fail;refine zan (wx:=wr) (λ_=>False) [(λ_ X _=>X 0=.slice (sD b1 off1) la.length ca),(λ_ X _=>X 1=.int .i64 k),(λ_ X _=>X 2=.pointer (some ⟨b1,off1+k*4,none⟩)),(λ_ X _=>X 3=.agg #[.bool ngp,.slice aop np capp,.bool ngq,.slice aoq nq capq]),(λ_ X _=>X 4=.slice (sD b2 off2) lb.length cb),(λ_ X _=>X 5=.int .i64 k),(λ_ X _=>X 6=.pointer (some ⟨b2,off2+k*4,none⟩)),(λ_ X _=>X 7=.agg #[.bool ngr,.slice aor nr capr,.bool ngs,.slice aos ns caps]),(λG X W=>((λG W v=>∃a,v=.tuple #[a,.int .i64 kk]/\PQ kk (ra*rb) W a):FV) G W (X 8)),(λG X W=>((λG W v=>∃a,v=.tuple #[a,.int .i64 kk]/\PQ kk (ra*rb) W a):FV) G W (X 9)),(λG X W=>((λG W v=>PQ kk (ra*rb) W v):FV) G W (X 10)),(λ_ X _=>X 11=.int .i64 kk),(λ_ _ _=>True),(λ_ _ _=>True),(λ_ X _=>X 14=.int .i64 kk)] [some 46,some 47,some 48,some 49,some 50,some 51,some 52,some 53,some 54,some 45,some 55,some 56,some 9,none,some 10] [none,none,none,none,none,none,none,none,none,none,none,none,some ⟨13,10,32,[bF_,nS_,bF_,nS_]⟩,none,none] [46,47,48,49,50,51,52,53,54,45,55,56,9,10] ⟨(by intro u hu k z e;subst e;simp at hu),trivial⟩ (λb h=>h) br ⟨zaa _ _ _,zaa _ _ _,zaa _ _ _,zaa _ _ _,zaa _ _ _,zaa _ _ _,zaa _ _ _,zaa _ _ _,(zaq (F:=λG W v=>∃a,v=.tuple #[a,.int .i64 kk]/\PQ kk (ra*rb) W a) λG G' W W' v ⟨a,e,h⟩ hk hn hG=>⟨a,e,h.kept hk hn⟩),(zaq (F:=λG W v=>∃a,v=.tuple #[a,.int .i64 kk]/\PQ kk (ra*rb) W a) λG G' W W' v ⟨a,e,h⟩ hk hn hG=>⟨a,e,h.kept hk hn⟩),(zaq (F:=λG W v=>PQ kk (ra*rb) W v) λG G' W W' v h hk hn hG=>h.kept hk hn),zaa _ _ _,zaj _,zaj _,zaa _ _ _,trivial⟩ ⟨⟨λ_ _ _=>trivial,λ_ _ _=>trivial⟩,trivial⟩ ⟨tX,tX,tX,?s3,tX,tX,tX,?s7,?s8,?s9,?s10,?s11,?s12,?s13,tX,trivial⟩ ⟨?b12,trivial⟩ ?he
     case' s3|s7|s8|s9|s10|s11=>
      rintro-G T W hb hHG hGW hGo hNG hA K hK;simp only[yA,yB,Region.binds]at hA;simp only[sA,hA]at hK|-
     case' s3|s7|s8=>
      have HK:=hii hK;clear hK hA
     case' s3=>
      obtain⟨f0,f1,f2,f3,_,_,_,_⟩:=FA.mono hb
     case' s7=>
      obtain⟨f0,f1,f2,f3,_,_,_,_⟩:=FB.mono hb
     case s3|s7=>
      exact cK
     case s8=>
      refine wO rfl ?_;go_simp;go_fit (zpk (HA.mono hb) (HB.mono hb) HKK (hE.mono hb));rintro e w1⟨⟨v9,rfl,hv9⟩,hb1⟩
      try dsimp only
      exact HK.o _ _ (hb1) λX hX _=>by
       show((λG W v=>∃a,v=.tuple #[a,.int .i64 kk]/\PQ kk (ra*rb) W a):FV) G _ (X 8)
       rw[hX];exact⟨_,rfl,hv9⟩
     case s9=>
      have r8:((λG W v=>∃a,v=.tuple #[a,.int .i64 kk]/\PQ kk (ra*rb) W a):FV) G W (T 54):=hA.1;obtain⟨a5,e8,h5⟩:=r8;simp only[e8]at hK|-;have HK:=hii hK;clear hK hA;refine wO rfl ?_;go_simp;exact HK.o _ _ br λX hX _=>by
       show((λG W v=>∃a,v=.tuple #[a,.int .i64 kk]/\PQ kk (ra*rb) W a):FV) G _ (X 9)
       rw[hX];exact⟨_,rfl,h5⟩
     case s10=>
      have r9:((λG W v=>∃a,v=.tuple #[a,.int .i64 kk]/\PQ kk (ra*rb) W a):FV) G W (T 45):=hA.1;obtain⟨a6,e9,h6⟩:=r9;simp only[e9]at hK|-;have HK:=hii hK;clear hK hA;refine wO rfl ?_;go_simp;exact HK.o _ _ br λX hX _=>by
       show((λG W v=>PQ kk (ra*rb) W v):FV) G _ (X 10)
       exact eM
     case s11=>
      have r9:((λG W v=>∃a,v=.tuple #[a,.int .i64 kk]/\PQ kk (ra*rb) W a):FV) G W (T 45):=hA.1;obtain⟨a6,e9,h6⟩:=r9;simp only[e9]at hK|-;exact dB
     case s12=>exact λh=>absurd h dM
     case s13=>exact λh=>absurd h dM
     case b12=>
      refine⟨?_,?_⟩
      ·exact cG
      ·rintro o ho G T W nb hA hp hrow K hK;obtain rfl:=Option.some.inj ho;have ep:T 9=.pointer (sD nb 0):=hp;have r10:((λG W v=>PQ kk (ra*rb) W v):FV) G W (T 55):=hA.2.1;obtain⟨J1,ao1,n1,Y1,K1,ap1,m1,Z1,e10,_⟩:=(r10:PQ kk (ra*rb) W _);have hK:=hK [.bool J1,.slice ao1 n1 Y1,.bool K1,.slice ap1 m1 Z1] (.inl e10) rfl (by intro u hu k z e;subst e;simp at hu);simp only[sA,ep,e10]at hK|-;exact cJ
     case he=>
      rintro GG N T W hb hHG hGW hGo hbox hNG hne hA;have fv:((λG W v=>PQ kk (ra*rb) W v):FV) GG W (T 55):=hA.at 10 dM;have f14:T 10=.int .i64 kk:=hA.at 14 dM;obtain⟨ep,_,hge,vs,hsto,hrow⟩:=hbox 12 _ rfl;have ep:T 9=.pointer (some ⟨N 12,0,none⟩):=ep;obtain⟨J5,ao5,n5,Y5,K5,ap5,m5,Z5,e5,hq5⟩:=(fv:PQ kk (ra*rb) W _);obtain rfl:=hsto.four e5;rw[e5]at hq5;obtain⟨g9,hg⟩:∃g,g=N 12:=⟨_,rfl⟩;rw[<-hg]at ep hrow;clear hg;simp only[sA,ep,f14];have X9:=hrow.box4;have HQ5:=hii hq5;clear hA f14 ep hbox hNG hne hHG hGW hGo e5 hsto hge hrow hq5;have X4:=X4.mono hb;have X7:=X7.mono hb;have HV:=HV.mono hb;have hE:=hE.mono hb;have hbw:=bu hbw hb;clear hb FA FB HA HB;rcases HKK.o with⟨rfl,hM⟩|⟨rfl,hM⟩
      ·have HM:=hii hM;have HR:=HQ5.o rfl;obtain⟨k2,hk2⟩:=KQ.ex (zcI acc (ra*rb));have HK2:=hii hk2;clear hk2 hM HKK;obtain⟨x0,x1,x2,x3,_,_,_,_⟩:=id X7;obtain⟨y0,y1,y2,y3,_,_,_,_⟩:=id X9;go_wp2_with fail;go_fit (zpr HV HR HK2 hE);rintro e v51⟨⟨v9,rfl,⟨J6,ao6,n6,Y6,K6,ap6,m6,Z6,rfl,hq6⟩⟩,hb⟩;have X4:=X4.mono hb;have X7:=X7.mono hb;have hbw:=bu hbw hb;clear hb hE x0 x1 x2 x3 y0 y1 y2 y3 X9 HR HV HQ5;obtain⟨x0,x1,x2,x3,_,_,_,_⟩:=id X7;go_upto_region 17 with fail;clear x0 x1 x2 x3;have HQ6:=hii λh:k2=0=>(hq6 h).put4B X7 (.bool J6) (.slice ao6 n6 Y6) (.bool K6) (.slice ap6 m6 Z6)
       have X4:zaU _ w.heap.size _ _ _ _:=X4.putOther (m:=g7) (y0:=.bool J6) (y1:=.slice ao6 n6 Y6) (y2:=.bool K6) (y3:=.slice ap6 m6 Z6) oM;have X7:=X7.put4I (.bool J6) (.slice ao6 n6 Y6) (.bool K6) (.slice ap6 m6 Z6);have hbw:=Below.put4 hbw (n:=g7) oM (.bool J6) (.slice ao6 n6 Y6) (.bool K6) (.slice ap6 m6 Z6);have hE:=hE00.mono hbw;clear hq6;generalize ((((v51.setCell (aD_ g7 0) (.bool J6)).setCell (aD_ g7 1) (.slice ao6 n6 Y6)).setCell (aD_ g7 2) (.bool K6)).setCell (aD_ g7 3) (.slice ap6 m6 Z6))=wq at*;rcases HK2.o with⟨rfl,hA⟩|⟨rfl,hA⟩
       ·have HD3:Hid (ziS (acc+ra*rb) (la.drop (k+1)) (lb.drop (k+1)) o):=hii (by rcases HD2.o with h|h;exact h.2.2;exact absurd ⟨HM.o,hA⟩ h.1);have HV6:=HQ6.o rfl;clear HD2 hA HQ6 HK2;go_wp2;go_roundw
        case rel=>exact⟨k+1,acc+ra*rb,oM,gM,HD3,⟨_,_,_,_,_,_,_,_,X7,HV6⟩,X4,hE,hbw⟩
        case measure=>exact mM
       ·have HO:Hid (o=none):=hii (by rcases HD2.o with h|h;exact absurd h.2.1 hA;exact h.2);clear HD2 hA HQ6 HK2 X7;obtain⟨x0,x1,x2,x3,_,_,_,_⟩:=id X4;go_wp2;refine bodyPost_ret (v:=.tuple #[.agg #[bF_,nS_,bF_,nS_],.int .i64 3]) (by simp[results,Tryz.results126,go_sem,x0,x1,x2,x3]) rfl ⟨zmd.no HO rfl,Below.put4 hbw oM bF_ nS_ bF_ nS_⟩
      ·have HO:Hid (o=none):=hii (by rcases HD2.o with h|h;exact absurd h.1 hM;exact h.2);clear HD2 hM HKK HQ5 X9 HV X7;obtain⟨x0,x1,x2,x3,_,_,_,_⟩:=id X4;go_wp2;refine bodyPost_ret (v:=.tuple #[.agg #[bF_,nS_,bF_,nS_],.int .i64 3]) (by simp[results,Tryz.results126,go_sem,x0,x1,x2,x3]) rfl ⟨zmd.no HO rfl,Below.put4 hbw oM bF_ nS_ bF_ nS_⟩
    ·obtain rfl:k=la.length:=oM;have HO:Hid (o=some acc):=hii (by have h:=HD.o;rw[List.drop_length]at h;exact h);obtain⟨y0,y1,y2,y3,_,_,_,_⟩:=id X7;obtain⟨x0,x1,x2,x3,_,_,_,_⟩:=id X4;go_wp2;refine bodyPost_ret (v:=.tuple #[.agg #[.bool nge,.slice aoe ne cape,.bool ngf,.slice aof nf capf],.int .i64 0]) (by simp[results,Tryz.results126,go_sem,x0,x1,x2,x3]) rfl ⟨zmd.got HO (.of (HV.put4B X4 _ _ _ _)),Below.put4 hbw oM (.bool nge) (.slice aoe ne cape) (.bool ngf) (.slice aof nf capf)⟩
end Go.Proofs.YtfgffkmddanjjaaGreatDoor
