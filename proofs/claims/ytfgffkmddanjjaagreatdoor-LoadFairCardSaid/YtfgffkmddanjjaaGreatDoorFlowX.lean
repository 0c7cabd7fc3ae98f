/-
  A drawn region in which boxes are made and written, each by one store; in the boxes there are no integers.
-/
import Derived.Test.YtfgffkmddanjjaaGreatDoorOQ
set_option linter.unusedVariables false
set_option linter.unusedSimpArgs false
set_option maxRecDepth 100000
set_option maxHeartbeats 25600000
namespace Go.Proofs.YtfgffkmddanjjaaGreatDoor
open _root_.Go.Proofs.Tryz
open Go.RowKit
section
variable {P : Program} {ops : Array Oper} {Q : Exit → Act → Wo → Prop}
theorem NoG.below {G:Nat->Prop} {W W':Wo} (h:NoG G W) (hg:∀ b,G b->b < W.heap.size) (hb:BH W W'):NoG G W' :=
 λ g hG cur t fr hc => h g hG cur t fr ((hb.block g (hg g hG)).symm.trans hc)
def zlD (sup:LN) (F:zdY):Prop:=∀ (G G':Nat->Prop) (X X':Nat->Vl) (W W':Wo),F G X W->zaf G W W'->NoG G W->(∀ b,b < W.heap.size->G' b->G b)->(∀ j∈sup,X' j=X j)->F G' X' W'
theorem zab (k:Nat) (r:LN) (u:Vl):zlD (k :: r) (λ _ X _ => X k=u):=λ _ _ _ _ _ _ h _ _ _ hX => (hX k (by simp)).trans h
theorem zan (sup:LN):zlD sup (λ _ _ _ => True):=λ _ _ _ _ _ _ h _ _ _ _ => h
theorem zat {ops:Array Oper} {k:Nat} {F:(Nat->Prop)->Wo->Vl->Prop} (h:∀ (G G':Nat->Prop) (W W':Wo) (v:Vl),F G W v->zaf G W W'->NoG G W->(∀ b,b < W.heap.size->G' b->G b)->F G' W' v):zlD (zev ops k) (λ G X W => F G W (X k)) :=
 λ G G' X X' W W' hf hk hn hg hX => by
  have:=h G G' W W' _ hf hk hn hg
  show F G' W' (X' k)
  rw [hX k (by simp [zev])]; exact this
def zoa (ops:Array Oper):Nat->List zdY->Prop
 | _,[] => True
 | k,F :: r => zlD (zev ops k) F/\zoa ops (k + 1) r
theorem zoa.get {ops:Array Oper}:∀ {l:List zdY} (j k:Nat),zoa ops j l->zlD (zev ops (j + k)) (l.getD k λ _ _ _ => True)
 | [],_,_,_ => zan _
 | _ :: _,_,0,h => h.1
 | _ :: r,j,k + 1,h => by have:=zoa.get (l:=r) (j + 1) k h.2; rw [show j + (k + 1)=j + 1 + k by omega]; exact this
def zkb (v:Vl) (n:Nat) (vs:List Vl):Prop:=Sto v vs/\vs.length=n
def FQ (r:Rat) (_:Nat->Prop) (W:Wo) (v:Vl):Prop:=zad W v r
theorem zaY {ops:Array Oper} {k:Nat} (r:Rat):zlD (zev ops k) (λ G X W => FQ r G W (X k)):=zat λ G G' W W' v (h:zad W v r) hk hn _ => h.kept hk hn
theorem zap {id:Nat} {a:Act} {w wx:Wo} (H:Nat->Prop) (Fs:List zdY) (ds:List (Option Nat)) (al:List (Option Fb)) (dl:LN)

  (hz:zbx (λ _ fb => ∀ u∈fb.z,zaF u) 0 al) (hH0:∀ b,¬ H b) (hw:BH wx w) (hS:zoa ops 0 Fs)
  (hT:zbx (λ i fb => (∀ G X W,(Fs.getD i λ _ _ _ => True) G X W)/\∀ G X W,(Fs.getD fb.st λ _ _ _ => True) G X W) 0 al)
  (hs:zaC (λ i o => znw al i=true->∀ (G:Nat->Prop) (T:Nat->Vl) (W:Wo),BH wx W->(∀ b,H b->G b)->(∀ b,G b->b < W.heap.size)->(∀ b,b < wx.heap.size->G b->H b)->NoG G W->zf8 Fs G (dv ds T) W (zaM .any o) ->
   ∀ K:Act->Wo->Prop,(∀ v W',BH W W'->(∀ X:Nat->Vl,X i=(o.dst.map λ _ => v).getD undef->(∀ j,j ≠ i->X j=dv ds T j)->(Fs.getD i λ _ _ _ => True) G X W')->K (({ a with tmps:=ovr a.tmps T dl }:Act).put o.dst v) W') ->
    wpOp P ops Q i K { a with tmps:=ovr a.tmps T dl } W) 0 ops.toList)
  (hB:zbx (λ j fb => (∀ o,ops[j]?=some o->∀ (T:Nat->Vl) (W:Wo) (K:Act->Wo->Prop),K (({ a with tmps:=ovr a.tmps T dl }:Act).put o.dst (.pointer (some ⟨W.heap.size,0,none⟩))) (W.alloc (.cells fb.z.toArray fb.E))->wpOp P ops Q j K { a with tmps:=ovr a.tmps T dl } W) /\
   (∀ o,ops[fb.st]?=some o->∀ (G:Nat->Prop) (T:Nat->Vl) (W:Wo) (n:Nat),zf8 Fs G (dv ds T) W (zaM .any o)->dv ds T j=.pointer (sD n 0)->Row W n fb.E fb.z->∀ K:Act->Wo->Prop,(∀ vs,Sto (dv ds T fb.src) vs->vs.length=fb.z.length->(∀ u∈vs,zaF u)->K { a with tmps:=ovr a.tmps T dl } (zl5 W n 0 vs))->wpOp P ops Q fb.st K { a with tmps:=ovr a.tmps T dl } W)) 0 al)
  (he:∀ (G:Nat->Prop) (N:Nat->Nat) T W,BH wx W->(∀ b,H b->G b)->(∀ b,G b->b < W.heap.size)->(∀ b,b < wx.heap.size->G b->H b) ->
   (∀ i fb,al.getD i none=some fb->dv ds T i=.pointer (some ⟨N i,0,none⟩)/\G (N i)/\wx.heap.size<=N i/\∃ vs,zkb (dv ds T fb.src) fb.z.length vs/\Row W (N i) fb.E vs) ->
   NoG G W->(∀ i j fb fc,al.getD i none=some fb->al.getD j none=some fc->i ≠ j->N i ≠ N j)->zf8 Fs G (dv ds T) W (List.range ops.size)->Q .normal { a with tmps:=ovr a.tmps T dl } W)
  (hm:P.follows .mixedOrders=true:=by kernel_rfl) (ht:ziG .any ops=true:=by kernel_rfl) (hd:ops.toList.map (·.dst)=ds:=by kernel_rfl) (hdl:ds.filterMap (λ x => x)=dl:=by kernel_rfl) (hnd:dl.Nodup:=by exact of_decide_eq_true (by kernel_rfl)) (hok:zcj al ops=true:=by kernel_rfl):(Code.region id ops true).wp P Q a w:=by
 have hnd':(ds.filterMap _root_.id).Nodup:=by
  have:ds.filterMap _root_.id=dl:=hdl;rw [this]; exact hnd
 have hdst:∀ (i:Nat) (o:Oper),ops[i]?=some o->i < ops.size/\o.dst=ds.getD i none:=by
  intro i o ho;have hi:i < ops.size:=(Array.getElem?_eq_some_iff.1 ho).1;refine ⟨hi,?_⟩;have h1:(ops.toList.map (·.dst))[i]?=some o.dst:=by simp [ho]
  rw [hd] at h1;rw [List.getD_eq_getElem?_getD,h1]; rfl
 refine zck (λ L T W => ∃ (G:Nat->Prop) (N:Nat->Nat),(∀ b,G b->b < W.heap.size)/\(∀ b,H b->G b)/\(∀ b,b < wx.heap.size->G b->H b)/\NoG G W/\BH wx W /\
  (∀ i fb,al.getD i none=some fb->L i->dv ds T i=.pointer (some ⟨N i,0,none⟩)/\G (N i)/\wx.heap.size<=N i/\N i < W.heap.size/\(¬ L fb.st->Row W (N i) fb.E fb.z)/\(L fb.st->L fb.src/\∃ vs,zkb (dv ds T fb.src) fb.z.length vs/\Row W (N i) fb.E vs)) /\
  (∀ i j fb fc,al.getD i none=some fb->al.getD j none=some fc->L i->L j->i ≠ j->N i ≠ N j) /\
  (∀ i fb,al.getD i none=some fb->L fb.st->L i) /\
  (∀ k o,ops[k]?=some o->L k->∀ j∈zaM .any o,L j) /\
  ∀ k,k < ops.size->L k->(Fs.getD k λ _ _ _ => True) G (dv ds T) W) dl hm ht ?_
  (λ T => ⟨H,λ _ => 0,λ b hb => absurd hb (hH0 b),λ _ h => h,λ _ _ h => h,λ b hb => absurd hb (hH0 b),hw.drew,λ _ _ _ h => h.elim,λ _ _ _ _ _ _ h => h.elim,λ _ _ _ h => h.elim,λ _ _ _ h => h.elim,λ k _ h => h.elim⟩) ?_ ?_ ?_
 ·unfold zmn;rw [<- hdl,<- hd];simp [List.filterMap_map]
  rfl
 ·refine zaC.imp ops.toList 0 (λ k o ho h => ?_) hs;rw [Nat.zero_add] at h |-;have hko:ops[k]?=some o:=by simpa using ho
  rintro L T W hL hn ⟨G,N,g1,g2,g3,hG,hb,hN,hD,hLL,hW,hJ⟩ K hK;obtain ⟨hkl,hkd⟩:=hdst k o hko;have hall:∀ d,d∈zaM .any o->L d:=by
   have:∀ l:LN,zdp L l->∀ d,d∈l->L d:=by
    intro l
    induction l with
    | nil => intro _ d hd; simp at hd
    | cons x r ih =>
     intro h d hd;rcases List.mem_cons.1 hd with rfl | hd
     ·exact h.1
     ·exact ih h.2 d hd
   exact this _ hL
  have hA:zf8 Fs G (dv ds T) W (zaM .any o):=zf8.mem λ d hdw => hJ d (Nat.lt_trans (zbt ht hko hdw) hkl) (hall d hdw)
  have same:∀ v j,j ≠ k->dv ds (zbB T o.dst v) j=dv ds T j:=by
   intro v j hjk;unfold dv
   cases hdj:ds.getD j none with
   | none => rfl
   | some d =>
    cases hdo:o.dst with
    | none => rfl
    | some d' =>
     have hne:d ≠ d':=λ e => by
      rw [hdo] at hkd;exact hjk (zbo hnd' hdj (by rw [<- hkd,e]))
     simp [zbB,upd,hne]
  have own:∀ v,dv ds (zbB T o.dst v) k=(o.dst.map λ _ => v).getD undef:=by
   intro v;unfold dv;rw [<- hkd]
   cases hdo:o.dst with
   | none => rfl
   | some d => simp [zbB,upd]
  have hS':∀ j,zlD (zev ops j) (Fs.getD j λ _ _ _ => True):=λ j => by have:=hS.get 0 j; rwa [Nat.zero_add] at this
  have hsup:∀ v j,j < ops.size->L j->∀ x∈zev ops j,dv ds (zbB T o.dst v) x=dv ds T x:=by
   intro v j hj hLj x hx;refine same v x λ e => hn (e ▸ ?_)
   rcases List.mem_cons.1 hx with rfl | hx
   ·exact hLj
   ·rw [Array.getElem?_eq_getElem hj] at hx;exact hW j _ (Array.getElem?_eq_getElem hj) hLj x hx
  have hWn:∀ (v:Vl) i o',ops[i]?=some o'->(i=k\/L i)->∀ j∈zaM .any o',j=k\/L j:=by
   rintro v i o' ho' (rfl | hLi) j hj
   ·rw [hko] at ho'; cases ho'; exact .inr (hall j hj)
   ·exact .inr (hW i o' ho' hLi j hj)
  by_cases hst:∃ j fb,al.getD j none=some fb/\fb.st=k
  ·-- a store
   obtain ⟨j,fb,hj,rfl⟩:=hst;obtain ⟨q1,q2,q3,q4,q5,q6,q7,q8⟩:=zcj.get hok hj;obtain ⟨w1,w2,w3⟩:=q4 o hko;obtain ⟨p1,p2,p3,p4,p5,p6⟩:=hN j fb hj (hall j w1);refine (hB.get hj).2 o hko G T W (N j) hA p1 (p5 hn) K λ vs hvs hvl hvn => ?_
   have hrow:=zhe vs fb.z [] W (p5 hn) hvl;have hkp:=zfx (N j) vs 0 W;have hkG:zaf G W (zl5 W (N j) 0 vs):=hkp.wide λ b e => e ▸ p2
   have hKK:=hK undef (zl5 W (N j) 0 vs);rw [w3] at hKK;have hGn:NoG G (zl5 W (N j) 0 vs):=by
    intro g hg cur t fr hc
    by_cases hgj:g=N j
    ·rw [hgj] at hc;have:=hrow.symm.trans hc;simp only [List.nil_append,Option.some.injEq,Obj.cells.injEq] at this;obtain ⟨rfl,_,_⟩:=this;exact hvn
    ·exact hG g hg cur t fr ((hkp.block g (g1 g hg) hgj).symm.trans hc)
   refine hKK ⟨G,N,λ b hb' => Nat.lt_of_lt_of_le (g1 b hb') hkp.size,g2,g3,hGn,hb.trans (hkp.below (λ b e => e ▸ p3) hb.size),?_,?_,?_,?_,?_⟩
   ·intro i fc hi hLi;have hLi':L i:=hLi.resolve_left λ e => by rw [e] at hi; rw [q6] at hi; cases hi
    obtain ⟨r1,r2,r3,r4,r5,r6⟩:=hN i fc hi hLi';have e:∀ x,dv ds (zbB T none undef) x=dv ds T x:=λ x => rfl
    refine ⟨r1,r2,r3,Nat.lt_of_lt_of_le r4 hkp.size,?_,?_⟩
    ·intro hns;have hij:i ≠ j:=λ e => by
      subst e; rw [hj] at hi; cases hi; exact hns (.inl rfl)
     exact (r5 λ h => hns (.inr h)).mono hkp (hD i j fc fb hi hj hLi' (hall j w1) hij)
    ·rintro (hs' | hs')
     ·have hij:i=j:=Classical.byContradiction λ hne => (zcj.get hok hi).2.2.2.2.2.2.2 j fb hj hne hs'
      subst hij;rw [hj] at hi; cases hi;exact ⟨.inr (hall _ w2),vs,⟨hvs,hvl⟩,by simpa using hrow⟩
     ·have hij:i ≠ j:=λ e => by subst e; rw [hj] at hi; cases hi; exact hn hs'
      obtain ⟨z1,vs',z2,z3⟩:=r6 hs';exact ⟨.inr z1,vs',z2,z3.mono hkp (hD i j fc fb hi hj hLi' (hall j w1) hij)⟩
   ·intro i i' fc fd hi hi' hLi hLi';exact hD i i' fc fd hi hi' (hLi.resolve_left λ e => by rw [e] at hi; rw [q6] at hi; cases hi) (hLi'.resolve_left λ e => by rw [e] at hi'; rw [q6] at hi'; cases hi')
   ·rintro i fc hi (hs' | hs')
    ·have hij:i=j:=Classical.byContradiction λ hne => (zcj.get hok hi).2.2.2.2.2.2.2 j fb hj hne hs'
     subst hij; exact .inr (hall _ w1)
    ·exact .inr (hLL i fc hi hs')
   ·exact λ i o' ho' hLi => hWn undef i o' ho' hLi
   ·rintro x hx (rfl | hLx)
    ·exact (hT.get hj).2 _ _ _
    ·exact hS' x G G _ _ W _ (hJ x hx hLx) hkG hG (λ _ _ h => h) λ _ _ => rfl
  ·cases hak:al.getD k none with
   | some fb =>
    obtain ⟨q1,q2,q3,q4,⟨p,q5⟩,q6,q7,q8⟩:=zcj.get hok hak;have hop:=q5 o hko;refine (hB.get hak).1 o hko T W K ?_;have hba:=bA W (.cells fb.z.toArray fb.E);have hsz:(W.alloc (.cells fb.z.toArray fb.E)).heap.size=W.heap.size + 1:=by simp
    have hKb:zaf G W (W.alloc (.cells fb.z.toArray fb.E)):=zaf.of_below hba;have hL':∀ b,b < W.heap.size->(G b\/b=W.heap.size)->G b:=λ b hlt hh => hh.resolve_right (by omega)
    obtain ⟨N',hNk,hNo⟩:∃ N':Nat->Nat,N' k=W.heap.size/\∀ x,x ≠ k->N' x=N x:=⟨λ x => if x=k then W.heap.size else N x,if_pos rfl,λ x hx => if_neg hx⟩;have hGn:NoG (λ b => G b\/b=W.heap.size) (W.alloc (.cells fb.z.toArray fb.E)):=by
     rintro g (hg | rfl) cur t fr hc
     ·exact hG g hg cur t fr ((hba.block g (g1 g hg)).symm.trans hc)
     ·have:=(heap_alloc_new W (.cells fb.z.toArray fb.E)).symm.trans hc;simp only [Option.some.injEq,Obj.cells.injEq] at this;obtain ⟨rfl,_,_⟩:=this;exact hz.get hak
    refine hK _ _ ⟨λ b => G b\/b=W.heap.size,N',?_,λ b hb' => .inl (g2 b hb'),λ b hlt hh => g3 b hlt (hh.resolve_right (by have:=hb.size; omega)),hGn,bu hb hba,?_,?_,?_,?_,?_⟩
    ·rintro b (hb' | rfl)
     ·have:=g1 b hb'; omega
     ·omega
    ·intro i fc hi hLi
     by_cases hik:i=k
     ·subst hik;rw [hak] at hi; cases hi;refine ⟨by rw [own,hop,hNk]; rfl,.inr hNk,by rw [hNk]; exact hb.size,by rw [hNk]; omega,λ _ => ?_,λ hs' => ?_⟩
      ·rw [hNk];exact heap_alloc_new _ _
      ·rcases hs' with hs' | hs'
       ·rw [hs'] at q6; rw [hak] at q6; cases q6
       ·exact absurd (hLL _ _ hak hs') hn
     ·have hLi':=hLi.resolve_left hik;obtain ⟨r1,r2,r3,r4,r5,r6⟩:=hN i fc hi hLi';obtain ⟨_,_,_,_,_,s6,s7,_⟩:=zcj.get hok hi;have hstk:fc.st ≠ k:=λ e => by rw [e] at s6; rw [hak] at s6; cases s6
      have hsrck:fc.src ≠ k:=λ e => by rw [e] at s7; rw [hak] at s7; cases s7
      refine ⟨by rw [same _ _ hik,hNo _ hik]; exact r1,.inl (by rw [hNo _ hik]; exact r2),by rw [hNo _ hik]; exact r3,by rw [hNo _ hik]; omega,λ hns => ?_,λ hs' => ?_⟩
      ·rw [hNo _ hik];exact (r5 λ h => hns (.inr h)).below hba
      ·obtain ⟨z1,vs',z2,z3⟩:=r6 (hs'.resolve_left hstk);rw [hNo _ hik];exact ⟨.inr z1,vs',by rw [same _ _ hsrck]; exact z2,z3.below hba⟩
    ·intro i j fc fd hi hj hLi hLj hij
     by_cases hik:i=k
     ·have hjk:j ≠ k:=λ e => hij (hik.trans e.symm)
      rw [hik,hNk,hNo _ hjk];have:=(hN j fd hj (hLj.resolve_left hjk)).2.2.2.1;omega
     ·rw [hNo _ hik];have h4:=(hN i fc hi (hLi.resolve_left hik)).2.2.2.1
      by_cases hjk:j=k
      ·rw [hjk,hNk]; omega
      ·rw [hNo _ hjk];exact hD i j fc fd hi hj (hLi.resolve_left hik) (hLj.resolve_left hjk) hij
    ·intro i fc hi hs';obtain ⟨_,_,_,_,_,s6,_,_⟩:=zcj.get hok hi;have hstk:fc.st ≠ k:=λ e => by rw [e] at s6; rw [hak] at s6; cases s6
     exact .inr (hLL i fc hi (hs'.resolve_left hstk))
    ·exact λ i o' ho' hLi => hWn bF_ i o' ho' hLi
    ·intro x hx hLx
     by_cases hxk:x=k
     ·subst hxk; exact (hT.get hak).1 _ _ _
     ·exact hS' x G _ _ _ W _ (hJ x hx (hLx.resolve_left hxk)) hKb hG hL' (hsup _ x hx (hLx.resolve_left hxk))
   | none =>
    refine h (znw.mk hak λ j fb hj e => hst ⟨j,fb,hj,e⟩) G T W hb g2 g1 g3 hG hA K λ v W' hb' hv => hK v W' ⟨G,N,λ b h => Nat.lt_of_lt_of_le (g1 b h) hb'.size,g2,g3,hG.below g1 hb',Below.step hb hb' nl,?_,?_,?_,?_,?_⟩
    ·intro i fc hi hLi;have hik:i ≠ k:=λ e => by rw [e] at hi; rw [hak] at hi; cases hi
     have hLi':=hLi.resolve_left hik;obtain ⟨r1,r2,r3,r4,r5,r6⟩:=hN i fc hi hLi';have hstk:fc.st ≠ k:=λ e => hst ⟨i,fc,hi,e⟩
     refine ⟨by rw [same _ _ hik]; exact r1,r2,r3,Nat.lt_of_lt_of_le r4 hb'.size,λ hns => (r5 λ h => hns (.inr h)).below hb',λ hs' => ?_⟩;obtain ⟨z1,vs',z2,z3⟩:=r6 (hs'.resolve_left hstk);have hsrck:fc.src ≠ k:=λ e => hn (e ▸ z1)
     exact ⟨.inr z1,vs',by rw [same _ _ hsrck]; exact z2,z3.below hb'⟩
    ·intro i j fc fd hi hj hLi hLj hij;have hik:i ≠ k:=λ e => by rw [e] at hi; rw [hak] at hi; cases hi
     have hjk:j ≠ k:=λ e => by rw [e] at hj; rw [hak] at hj; cases hj
     exact hD i j fc fd hi hj (hLi.resolve_left hik) (hLj.resolve_left hjk) hij
    ·intro i fc hi hs';have hstk:fc.st ≠ k:=λ e => hst ⟨i,fc,hi,e⟩
     exact .inr (hLL i fc hi (hs'.resolve_left hstk))
    ·exact λ i o' ho' hLi => hWn v i o' ho' hLi
    ·intro x hx hLx
     by_cases hxk:x=k
     ·subst hxk; exact hv _ (own v) λ j hj => same v j hj
     ·exact hS' x G G _ _ W W' (hJ x hx (hLx.resolve_left hxk)) (zaf.of_below hb') hG (λ _ _ h => h) (hsup _ x hx (hLx.resolve_left hxk))
 ·rintro T W ⟨G,N,g1,g2,g3,hG,hb,hN,hD,hLL,hW,hJ⟩;refine he G N T W hb g2 g1 g3 ?_ hG ?_ (zf8.mem λ k hk => hJ k (by simpa using hk) (by simpa using hk))
  ·intro i fb hi;obtain ⟨q1,q2,q3,_⟩:=zcj.get hok hi;obtain ⟨r1,r2,r3,r4,r5,r6⟩:=hN i fb hi q1;exact ⟨r1,r2,r3,(r6 q2).2⟩
  ·intro i j fb fc hi hj hij;exact hD i j fb fc hi hj (zcj.get hok hi).1 (zcj.get hok hj).1 hij
 ·rintro L T W hL ⟨G,N,g1,g2,g3,hG,hb,hN,hD,hLL,hW,hJ⟩;refine ⟨G,N,g1,g2,g3,hG,hb,?_,?_,λ i fb hi _ => (zcj.get hok hi).1,λ k o hk _ j hj => Nat.lt_trans (zbt ht hk hj) (Array.getElem?_eq_some_iff.1 hk).1,λ k hk _ => hJ k hk (hL k hk)⟩
  ·intro i fb hi _;obtain ⟨q1,q2,q3,_⟩:=zcj.get hok hi;obtain ⟨r1,r2,r3,r4,r5,r6⟩:=hN i fb hi (hL i q1);exact ⟨r1,r2,r3,r4,λ h => absurd q2 h,λ _ => ⟨q3,(r6 (hL _ q2)).2⟩⟩
  ·intro i j fb fc hi hj _ _ hij;exact hD i j fb fc hi hj (hL i (zcj.get hok hi).1) (hL j (zcj.get hok hj).1) hij
end
theorem Row.box4 {w:Wo} {g:Nat} {E:TypeId} {a b c d:Vl} (h:Row w g E [a,b,c,d]):zaQ w g a b c d :=
 ⟨h.cell (k:=0) (by simp),h.cell (k:=1) (by simp),h.cell (k:=2) (by simp),h.cell (k:=3) (by simp),h.free 0,h.free 1,h.free 2,h.free 3⟩
theorem zad.put4B {w:Wo} {n c1 d1 c2 d2:Nat} {b1 b2:Bool} {s1 s2:OA} {u:Vl} {r:Rat} (hB:zaQ w n (.bool b1) (.slice s1 c1 d1) (.bool b2) (.slice s2 c2 d2)) (h:zad w u r) (x0 x1 x2 x3:Vl) :
  zad ((((w.setCell (aD_ n 0) x0).setCell (aD_ n 1) x1).setCell (aD_ n 2) x2).setCell (aD_ n 3) x3) u r:=by
 obtain ⟨n1,a1,l1,c1,n2,a2,l2,c2,e,h1,h2⟩:=h;exact ⟨n1,a1,l1,c1,n2,a2,l2,c2,e,h1.put4B hB _ _ _ _,h2.put4B hB _ _ _ _⟩
theorem zcw.of {w':Wo} {r:Rat} {v:Vl} (h:zad w' v r):zcw w' r (.returned (.tuple #[v,.int .i64 0])):=by
 obtain ⟨n1,a1,l1,c1,n2,a2,l2,c2,rfl,h1,h2⟩:=h;exact ⟨n1,a1,l1,c1,n2,a2,l2,c2,rfl,hii h1,hii h2⟩
theorem zkb.four {v a b c d:Vl} {vs:List Vl} (h:zkb v 4 vs) (e:v=.agg #[a,b,c,d]):vs=[a,b,c,d]:=by
 rcases h.1 with h1 | h1
 ·rw [e] at h1;simp only [Value.agg.injEq] at h1;have:=congrArg Array.toList h1
  simpa using this.symm
 ·have:=h.2;rw [h1] at this;simp at this
def PQ (k:Int) (r:Rat) (W:Wo) (v:Vl):Prop :=
 ∃ (n1:Bool) (a1:OA) (l1 c1:Nat) (n2:Bool) (a2:OA) (l2 c2:Nat),v=.agg #[.bool n1,.slice a1 l1 c1,.bool n2,.slice a2 l2 c2]/\(k=0->zad W v r)
theorem PQ.kept {G:Nat->Prop} {k:Int} {r:Rat} {W W':Wo} {v:Vl} (h:PQ k r W v) (hk:zaf G W W') (hn:NoG G W):PQ k r W' v:=by
 obtain ⟨n1,a1,l1,c1,n2,a2,l2,c2,e,h1⟩:=h;exact ⟨n1,a1,l1,c1,n2,a2,l2,c2,e,λ h => (h1 h).kept hk hn⟩
theorem zoI {va vb:Vl} {a b:Rat} {k:Int} {w:Wo} (ha:zad w va a) (hb:zad w vb b) (hk:Hid (KQ k (zdX a b))) (hE:Env w) :
  CP 69 #[va,vb] w λ e w' => (∃ v,e=.returned (.tuple #[v,.int .i64 k])/\PQ k (a * b) w' v)/\BH w w' :=
 (zmM va vb a b k w ha hb hk hE).mono λ e w' ⟨⟨n1,a1,l1,c1,n2,a2,l2,c2,e1,h1,h2,_⟩,hb⟩ => ⟨⟨_,e1,n1,a1,l1,c1,n2,a2,l2,c2,rfl,λ h => by subst h; exact zad.mk' h1 h2⟩,hb⟩
theorem zoP {va vb:Vl} {a b:Rat} {k:Int} {w:Wo} (ha:zad w va a) (hb:zad w vb b) (hk:Hid (KQ k (zer a b))) (hE:Env w) :
  CP 49 #[va,vb] w λ e w' => (∃ v,e=.returned (.tuple #[v,.int .i64 k])/\PQ k (a + b) w' v)/\BH w w' :=
 (zmY va vb a b k w ha hb hk hE).mono λ e w' ⟨⟨n1,a1,l1,c1,n2,a2,l2,c2,e1,h1,h2,_⟩,hb⟩ => ⟨⟨_,e1,n1,a1,l1,c1,n2,a2,l2,c2,rfl,λ h => by subst h; exact zad.mk' h1 h2⟩,hb⟩
theorem zmS (la lb:List Rat) (o:Option Rat) (aa ab:OA) (ca cb:Nat) (w:Wo) (hm:la.length<=1000000000) (hl:la.length=lb.length) (ua:UQ w aa (la.map some)) (ub:UQ w ab (lb.map some)) (hD:Hid (zis 0 la lb o)) (hE:Env w) :
  CP 126 #[.slice aa la.length ca,.slice ab lb.length cb] w λ e w' => zlB o w' e/\BH w w':=by
 have hlb:lb.length<=1000000000:=by omega
 have hne:((la.length:Int) != lb.length)=false:=by rw [bne_eq_false_iff_eq]; omega
 have hl1:la.length<=lb.length:=by omega
 have hl2:lb.length<=la.length:=by omega
 clear hl;have hE00:=hE;have hbw:=Below.refl w.heap.size w;go_enter func126,ntmps126;go_upto_region 1 with fail;have X4:=zaQ.new w bF_ nS_ bF_ nS_ 32;have hb:=bA w (.cells #[bF_,nS_,bF_,nS_] 32);generalize w.alloc (.cells #[bF_,nS_,bF_,nS_] 32)=v1 at *;have hE:=hE.mono hb;have hbw:=bu hbw hb;clear hb;go_wp2_with fail;go_loopw [19] (λ s wr => ∃ k:Nat,k<=la.length/\s=.int .i64 k/\zaQ wr w.heap.size bF_ nS_ bF_ nS_/\Env wr/\BH w wr) (λ s _ => la.length - (intOf s).toNat)
 case atStart => exact ⟨0,Nat.zero_le _,rfl,X4,hE,hbw⟩
 case round =>
  clear X4 hE hbw;obtain ⟨k,hk,rfl,X4,hE,hbw⟩:=hrel
  by_cases hlt:k < la.length
  ·have hltb:k < lb.length:=by omega
   obtain ⟨ra,hra⟩:∃ x,la[k]?=some x:=⟨la[k],gE hlt⟩;obtain ⟨rb,hrb⟩:∃ x,lb[k]?=some x:=⟨lb[k],gE hltb⟩;obtain ⟨b1,off1,ngp,aop,np,capp,ngq,aoq,nq,capq,ea,FA,HVA⟩:=(ua.mono hbw) k (some ra) (by simp [hra]);obtain ⟨b2,off2,ngr,aor,nr,capr,ngs,aos,ns,caps,eb,FB,HVB⟩:=(ub.mono hbw) k (some rb) (by simp [hrb]);have VA:VQ wr _ true:=zad.vq HVA;have VB:VQ wr _ true:=zad.vq HVB;clear hra hrb HVA HVB ua ub;subst ea;subst eb;obtain ⟨c0,c1,c2,c3,_,_,_,_⟩:=id FA;go_wp2_with fail;go_fit (ze7 _ true wr VA hE);rintro e v2 ⟨rfl,hb⟩;have VB:=VB.mono hb;have FB:=FB.mono hb;have X4:=X4.mono hb;have hE:=hE.mono hb;have hbw:=bu hbw hb;clear hb c0 c1 c2 c3;obtain ⟨c0,c1,c2,c3,_,_,_,_⟩:=id FB;go_wp2_with fail;go_fit (ze7 _ true v2 VB hE);rintro e v3 ⟨rfl,hb⟩;have X4:=X4.mono hb;have hE:=hE.mono hb;have hbw:=bu hbw hb;clear hb c0 c1 c2 c3;go_wp2;go_roundw
   case rel => exact ⟨k + 1,by omega,by go_num,X4,hE,hbw⟩
   case measure => simp [intOf]; omega
  ·obtain rfl:k=la.length:=by omega
   have hsz:=hbw.size;go_wp2_with fail;go_fit (zgq wr hE);rintro e v2 ⟨⟨ngf,aof,nf,capf,rfl,HVf⟩,hb⟩;have HV:zad v2 (qA false none 0 0 ngf aof nf capf) 0:=⟨_,_,_,_,_,_,_,_,rfl,zah.zero _,HVf.out⟩;clear HVf;have X4:=X4.mono hb;have hE:=hE.mono hb;have hbw:=bu hbw hb;clear hb;go_upto_region 10 with fail;have lX:=X4.lt;have X7:=zaQ.new v2 bF_ nS_ (.bool ngf) (.slice aof nf capf) 32;have hb:=bA v2 (.cells #[bF_,nS_,.bool ngf,.slice aof nf capf] 32);generalize v2.alloc (.cells #[bF_,nS_,.bool ngf,.slice aof nf capf] 32)=v3 at *;have X4:=X4.mono hb;have HV:=HV.mono hb;have hE:=hE.mono hb;have hbw:=bu hbw hb;clear hb;obtain ⟨g7,hg7⟩:∃ g,g=v2.heap.size:=⟨_,rfl⟩;rw [<- hg7] at X7 |-;have lg7:w.heap.size < g7:=by rw [hg7]; exact lX
   clear hg7 lX;go_wp2_with fail;go_loopw [42] (λ s wr => ∃ (k:Nat) (acc:Rat),k<=la.length/\s=.int .i64 k/\Hid (zis acc (la.drop k) (lb.drop k) o)/\(∃ (n1:Bool) (a1:OA) (l1 c1:Nat) (n2:Bool) (a2:OA) (l2 c2:Nat),zaQ wr g7 (.bool n1) (.slice a1 l1 c1) (.bool n2) (.slice a2 l2 c2)/\zad wr (qA n1 a1 l1 c1 n2 a2 l2 c2) acc)/\zaQ wr w.heap.size bF_ nS_ bF_ nS_/\Env wr/\BH w wr) (λ s _ => la.length - (intOf s).toNat)
   case atStart => exact ⟨0,0,Nat.zero_le _,rfl,hD,⟨_,_,_,_,_,_,_,_,X7,HV⟩,X4,hE,hbw⟩
   case round =>
    clear X4 X7 HV hE hbw hsz;obtain ⟨k,acc,hk,rfl,HD,⟨nge,aoe,ne,cape,ngf,aof,nf,capf,X7,HV⟩,X4,hE,hbw⟩:=hrel
    by_cases hlt:k < la.length
    ·have hltb:k < lb.length:=by omega
     obtain ⟨ra,hra⟩:∃ x,la[k]?=some x:=⟨la[k],gE hlt⟩;obtain ⟨rb,hrb⟩:∃ x,lb[k]?=some x:=⟨lb[k],gE hltb⟩;have HD2:Hid ((zdX ra rb/\zer acc (ra * rb)/\zis (acc + ra * rb) (la.drop (k + 1)) (lb.drop (k + 1)) o)\/(¬ (zdX ra rb/\zer acc (ra * rb))/\o=none)):=hii (by have h:=HD.out; rw [zjq hra,zjq hrb] at h; exact h);obtain ⟨b1,off1,ngp,aop,np,capp,ngq,aoq,nq,capq,ea,FA,HA⟩:=(ua.mono hbw) k (some ra) (by simp [hra]);obtain ⟨b2,off2,ngr,aor,nr,capr,ngs,aos,ns,caps,eb,FB,HB⟩:=(ub.mono hbw) k (some rb) (by simp [hrb]);have HA:zad wr _ ra:=HA;have HB:zad wr _ rb:=HB;clear hra hrb ua ub HD;subst ea;subst eb;obtain ⟨kk,hkk⟩:=KQ.ex (zdX ra rb);have HKK:=hii hkk;clear hkk;go_upto_region 13 with fail;refine zap (wx:=wr) (λ _ => False) [(λ _ X _ => X 0=.slice (sD b1 off1) la.length ca),(λ _ X _ => X 1=.int .i64 k),(λ _ X _ => X 2=.pointer (some ⟨b1,off1 + k * 4,none⟩)),(λ _ X _ => X 3=.agg #[.bool ngp,.slice aop np capp,.bool ngq,.slice aoq nq capq]),(λ _ X _ => X 4=.slice (sD b2 off2) lb.length cb),(λ _ X _ => X 5=.int .i64 k),(λ _ X _ => X 6=.pointer (some ⟨b2,off2 + k * 4,none⟩)),(λ _ X _ => X 7=.agg #[.bool ngr,.slice aor nr capr,.bool ngs,.slice aos ns caps]),(λ G X W => ((λ G W v => ∃ a,v=.tuple #[a,.int .i64 kk]/\PQ kk (ra * rb) W a):(Nat->Prop)->Wo->Vl->Prop) G W (X 8)),(λ G X W => ((λ G W v => ∃ a,v=.tuple #[a,.int .i64 kk]/\PQ kk (ra * rb) W a):(Nat->Prop)->Wo->Vl->Prop) G W (X 9)),(λ G X W => ((λ G W v => PQ kk (ra * rb) W v):(Nat->Prop)->Wo->Vl->Prop) G W (X 10)),(λ _ X _ => X 11=.int .i64 kk),(λ _ _ _ => True),(λ _ _ _ => True),(λ _ X _ => X 14=.int .i64 kk)] [some 46,some 47,some 48,some 49,some 50,some 51,some 52,some 53,some 54,some 45,some 55,some 56,some 9,none,some 10] [none,none,none,none,none,none,none,none,none,none,none,none,some ⟨13,10,32,[bF_,nS_,bF_,nS_]⟩,none,none] [46,47,48,49,50,51,52,53,54,45,55,56,9,10] ⟨(by intro u hu k z e; subst e; simp at hu),trivial⟩ (λ b h => h) br ⟨zab _ _ _,zab _ _ _,zab _ _ _,zab _ _ _,zab _ _ _,zab _ _ _,zab _ _ _,zab _ _ _,(zat (F:=λ G W v => ∃ a,v=.tuple #[a,.int .i64 kk]/\PQ kk (ra * rb) W a) λ G G' W W' v ⟨a,e,h⟩ hk hn hG => ⟨a,e,h.kept hk hn⟩),(zat (F:=λ G W v => ∃ a,v=.tuple #[a,.int .i64 kk]/\PQ kk (ra * rb) W a) λ G G' W W' v ⟨a,e,h⟩ hk hn hG => ⟨a,e,h.kept hk hn⟩),(zat (F:=λ G W v => PQ kk (ra * rb) W v) λ G G' W W' v h hk hn hG => h.kept hk hn),zab _ _ _,zan _,zan _,zab _ _ _,trivial⟩ ⟨⟨λ _ _ _ => trivial,λ _ _ _ => trivial⟩,trivial⟩ ⟨?s0,?s1,?s2,?s3,?s4,?s5,?s6,?s7,?s8,?s9,?s10,?s11,?s12,?s13,?s14,trivial⟩ ⟨?b12,trivial⟩ ?he
     case' s0 | s1 | s2 | s3 | s4 | s5 | s6 | s7 | s8 | s9 | s10 | s11 =>
      rintro - G T W hb hHG hGW hGo hNG hA K hK
     case' s0 | s1 | s4 | s5 =>
      simp only [sA] at hK |-
     case' s2 =>
      simp only [sA,f0 T 46 hA,f1 T 47 hA] at hK |-
     case' s3 =>
      have e2:T 48=_:=hA.1;obtain ⟨f0,f1,f2,f3,_,_,_,_⟩:=FA.mono hb;simp only [sA,e2] at hK |-
     case' s6 =>
      simp only [sA,f0 T 50 hA,f1 T 51 hA] at hK |-
     case' s7 =>
      have e6:T 52=_:=hA.1;obtain ⟨f0,f1,f2,f3,_,_,_,_⟩:=FB.mono hb;simp only [sA,e6] at hK |-
     case' s11 =>
      have r9:((λ G W v => ∃ a,v=.tuple #[a,.int .i64 kk]/\PQ kk (ra * rb) W a):(Nat->Prop)->Wo->Vl->Prop) G W (T 45):=hA.1;obtain ⟨a6,e9,h6⟩:=r9;simp only [sA,e9] at hK |-
     case s0 | s1 | s2 | s3 | s4 | s5 | s6 | s7 | s11 =>
      have HK:=hii hK;clear hK hA;refine wO rfl ?_;go_simp;exact HK.out _ _ br λ X hX _ => hX
     case s8 =>
      simp only [sA,f0 T 49 hA,f1 T 53 hA] at hK |-;have HK:=hii hK;clear hK hA;refine wO rfl ?_;go_simp;go_fit (zoI (HA.mono hb) (HB.mono hb) HKK (hE.mono hb));rintro e w1 ⟨⟨v9,rfl,hv9⟩,hb1⟩
      try dsimp only
      exact HK.out _ _ (hb1) λ X hX _ => by
       show ((λ G W v => ∃ a,v=.tuple #[a,.int .i64 kk]/\PQ kk (ra * rb) W a):(Nat->Prop)->Wo->Vl->Prop) G _ (X 8)
       rw [hX];exact ⟨_,rfl,hv9⟩
     case s9 =>
      have r8:((λ G W v => ∃ a,v=.tuple #[a,.int .i64 kk]/\PQ kk (ra * rb) W a):(Nat->Prop)->Wo->Vl->Prop) G W (T 54):=hA.1;obtain ⟨a5,e8,h5⟩:=r8;simp only [sA,e8] at hK |-;have HK:=hii hK;clear hK hA;refine wO rfl ?_;go_simp;exact HK.out _ _ br λ X hX _ => by
       show ((λ G W v => ∃ a,v=.tuple #[a,.int .i64 kk]/\PQ kk (ra * rb) W a):(Nat->Prop)->Wo->Vl->Prop) G _ (X 9)
       rw [hX];exact ⟨_,rfl,h5⟩
     case s10 =>
      have r9:((λ G W v => ∃ a,v=.tuple #[a,.int .i64 kk]/\PQ kk (ra * rb) W a):(Nat->Prop)->Wo->Vl->Prop) G W (T 45):=hA.1;obtain ⟨a6,e9,h6⟩:=r9;simp only [sA,e9] at hK |-;have HK:=hii hK;clear hK hA;refine wO rfl ?_;go_simp;exact HK.out _ _ br λ X hX _ => by
       show ((λ G W v => PQ kk (ra * rb) W v):(Nat->Prop)->Wo->Vl->Prop) G _ (X 10)
       rw [hX];exact h6
     case s12 => exact λ h => absurd h (by decide)
     case s13 => exact λ h => absurd h (by decide)
     case s14 =>
      rintro - G T W hb hHG hGW hGo hNG hA K hK;simp only [sA,f0 T 56 hA] at hK |-;have HK:=hii hK;clear hK hA;refine wO rfl ?_;go_simp;exact HK.out _ _ br λ X hX _ => hX
     case b12 =>
      refine ⟨?_,?_⟩
      ·rintro o ho T W K hK;obtain rfl:=Option.some.inj ho;simp only [sA] at hK |-;have HK:=hii hK;clear hK ho;refine wO rfl ?_;go_simp;exact HK.out
      ·rintro o ho G T W nb hA hp hrow K hK;obtain rfl:=Option.some.inj ho;have ep:T 9=.pointer (sD nb 0):=hp;have r10:((λ G W v => PQ kk (ra * rb) W v):(Nat->Prop)->Wo->Vl->Prop) G W (T 55):=hA.2.1;obtain ⟨J1,ao1,n1,Y1,K1,ap1,m1,Z1,e10,_⟩:=(r10:PQ kk (ra * rb) W _);have hK:=hK [.bool J1,.slice ao1 n1 Y1,.bool K1,.slice ap1 m1 Z1] (.inl e10) rfl (by intro u hu k z e; subst e; simp at hu);simp only [sA,ep,e10] at hK |-;have HK:=hii hK;clear hK hA ho;have q0:=hrow.cell (k:=0) (by simp);have f0:=hrow.free 0;have q1:=hrow.cell (k:=1) (by simp);have f1:=hrow.free 1;have q2:=hrow.cell (k:=2) (by simp);have f2:=hrow.free 2;have q3:=hrow.cell (k:=3) (by simp);have f3:=hrow.free 3;simp only [List.getElem_cons_zero,List.getElem_cons_succ] at q0 q1 q2 q3;refine wO rfl ?_;go_simp;exact HK.out
     case he =>
      rintro GG N T W hb hHG hGW hGo hbox hNG hne hA;have fv:((λ G W v => PQ kk (ra * rb) W v):(Nat->Prop)->Wo->Vl->Prop) GG W (T 55):=hA.at 10 (by decide);have f14:T 10=.int .i64 kk:=hA.at 14 (by decide);obtain ⟨ep,_,hge,vs,hsto,hrow⟩:=hbox 12 _ rfl;have ep:T 9=.pointer (some ⟨N 12,0,none⟩):=ep;obtain ⟨J5,ao5,n5,Y5,K5,ap5,m5,Z5,e5,hq5⟩:=(fv:PQ kk (ra * rb) W _);obtain rfl:=hsto.four e5;rw [e5] at hq5;obtain ⟨g9,hg⟩:∃ g,g=N 12:=⟨_,rfl⟩;rw [<- hg] at ep hrow;clear hg;simp only [sA,ep,f14];have X9:=hrow.box4;have HQ5:=hii hq5;clear hA f14 ep hbox hNG hne hHG hGW hGo e5 hsto hge hrow hq5;have X4:=X4.mono hb;have X7:=X7.mono hb;have HV:=HV.mono hb;have hE:=hE.mono hb;have hbw:=bu hbw hb;clear hb FA FB HA HB;rcases HKK.out with ⟨rfl,hM⟩ | ⟨rfl,hM⟩
      ·have HM:=hii hM;have HR:=HQ5.out rfl;obtain ⟨k2,hk2⟩:=KQ.ex (zer acc (ra * rb));have HK2:=hii hk2;clear hk2 hM HKK;obtain ⟨x0,x1,x2,x3,_,_,_,_⟩:=id X7;obtain ⟨y0,y1,y2,y3,_,_,_,_⟩:=id X9;go_wp2_with fail;go_fit (zoP HV HR HK2 hE);rintro e v51 ⟨⟨v9,rfl,⟨J6,ao6,n6,Y6,K6,ap6,m6,Z6,rfl,hq6⟩⟩,hb⟩;have X4:=X4.mono hb;have X7:=X7.mono hb;have hbw:=bu hbw hb;clear hb hE x0 x1 x2 x3 y0 y1 y2 y3 X9 HR HV HQ5;obtain ⟨x0,x1,x2,x3,_,_,_,_⟩:=id X7;go_upto_region 17 with fail;clear x0 x1 x2 x3;have HQ6:=hii λ h:k2=0 => (hq6 h).put4B X7 (.bool J6) (.slice ao6 n6 Y6) (.bool K6) (.slice ap6 m6 Z6)
       have X4:zaQ _ w.heap.size _ _ _ _:=X4.putOther (m:=g7) (y0:=.bool J6) (y1:=.slice ao6 n6 Y6) (y2:=.bool K6) (y3:=.slice ap6 m6 Z6) (by omega);have X7:=X7.put4I (.bool J6) (.slice ao6 n6 Y6) (.bool K6) (.slice ap6 m6 Z6);have hbw:=Below.put4 hbw (n:=g7) (by omega) (.bool J6) (.slice ao6 n6 Y6) (.bool K6) (.slice ap6 m6 Z6);have hE:=hE00.mono hbw;clear hq6;generalize ((((v51.setCell (aD_ g7 0) (.bool J6)).setCell (aD_ g7 1) (.slice ao6 n6 Y6)).setCell (aD_ g7 2) (.bool K6)).setCell (aD_ g7 3) (.slice ap6 m6 Z6))=wq at *;rcases HK2.out with ⟨rfl,hA⟩ | ⟨rfl,hA⟩
       ·have HD3:Hid (zis (acc + ra * rb) (la.drop (k + 1)) (lb.drop (k + 1)) o):=hii (by rcases HD2.out with h | h; exact h.2.2; exact absurd ⟨HM.out,hA⟩ h.1);have HV6:=HQ6.out rfl;clear HD2 hA HQ6 HK2;go_wp2;go_roundw
        case rel => exact ⟨k + 1,acc + ra * rb,by omega,by go_num,HD3,⟨_,_,_,_,_,_,_,_,X7,HV6⟩,X4,hE,hbw⟩
        case measure => simp [intOf]; omega
       ·have HO:Hid (o=none):=hii (by rcases HD2.out with h | h; exact absurd h.2.1 hA; exact h.2);clear HD2 hA HQ6 HK2 X7;obtain ⟨x0,x1,x2,x3,_,_,_,_⟩:=id X4;go_wp2;refine bodyPost_ret (v:=.tuple #[.agg #[bF_,nS_,bF_,nS_],.int .i64 3]) (by simp [results,Tryz.results126,go_sem,x0,x1,x2,x3]) rfl ⟨zlB.no HO rfl,Below.put4 hbw (by omega) bF_ nS_ bF_ nS_⟩
      ·have HO:Hid (o=none):=hii (by rcases HD2.out with h | h; exact absurd h.1 hM; exact h.2);clear HD2 hM HKK HQ5 X9 HV X7;obtain ⟨x0,x1,x2,x3,_,_,_,_⟩:=id X4;go_wp2;refine bodyPost_ret (v:=.tuple #[.agg #[bF_,nS_,bF_,nS_],.int .i64 3]) (by simp [results,Tryz.results126,go_sem,x0,x1,x2,x3]) rfl ⟨zlB.no HO rfl,Below.put4 hbw (by omega) bF_ nS_ bF_ nS_⟩
    ·obtain rfl:k=la.length:=by omega
     have HO:Hid (o=some acc):=hii (by have h:=HD.out; rw [List.drop_length] at h; exact h);obtain ⟨y0,y1,y2,y3,_,_,_,_⟩:=id X7;obtain ⟨x0,x1,x2,x3,_,_,_,_⟩:=id X4;go_wp2;refine bodyPost_ret (v:=.tuple #[.agg #[.bool nge,.slice aoe ne cape,.bool ngf,.slice aof nf capf],.int .i64 0]) (by simp [results,Tryz.results126,go_sem,x0,x1,x2,x3]) rfl ⟨zlB.got HO (.of (HV.put4B X4 _ _ _ _)),Below.put4 hbw (by omega) (.bool nge) (.slice aoe ne cape) (.bool ngf) (.slice aof nf capf)⟩
end Go.Proofs.YtfgffkmddanjjaaGreatDoor
