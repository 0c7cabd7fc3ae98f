/-
  A drawn region in which some operations write into memory of the call's own, one behind the other; all others leave values or make memory.
-/
import Derived.Test.YtfgffkmddanjjaaGreatDoorE14
import Derived.Maps.AppendAt
import Derived.Test.YtfgffkmddanjjaaGreatDoorDuS
set_option linter.unusedVariables false
set_option linter.unusedSimpArgs false
set_option maxRecDepth 100000
set_option maxHeartbeats 25600000
namespace Go.Proofs.YtfgffkmddanjjaaGreatDoor
open _root_.Go.Proofs.Tryz
open Go.RowKit
variable {bs l:LN} {ow:List (Vl × List Qo)} {xs:List Vl} {B' g q:Nat} {L:Nat->Nat->Rat} {v vA vB:Vl} {W:Wo}
section
variable {P : Program} {ops : Array Oper} {Q : Exit → Act → Wo → Prop}
def zpb(B:Nat)(F:FW):Prop:=∀(W W':Wo)(v:Vl),F W v->Below B W W'->F W' v
theorem zac(B:Nat)(u:Vl):zpb B (vf u):=λ_ _ _ h _=>h
def ze8(ops:Array Oper)(ws:LN)(i p:Nat):Bool :=
 (List.range ws.length).all λj=>if j<p then !(zaP ops (ws.getD j 0)).contains i && !(ws.getD j 0==i)else !(zaP ops i).contains (ws.getD j 0)
def zgS(ops:Array Oper)(ws:LN)(ph:List (LN)):Bool :=
 ((List.range ws.length).all λj=>decide (ws.getD j 0<ops.size) && (j==0 || (zaP ops (ws.getD j 0)).contains (ws.getD (j-1) 0))) &&
 (List.range ops.size).all λi=>(List.range (ws.length+1)).all λp=>!ze8 ops ws i p || (ph.getD i []).contains p
theorem zas{ws:LN}{n i p:Nat}(h:i ∉ ws)(hn:i≠n):ws.getD p n≠i:=by
 intro e;rw[List.getD_eq_getElem?_getD]at e;rcases Nat.lt_or_ge p ws.length with hp|hp
 ·rw[gE hp]at e;exact h (by rw[<-e];exact List.getElem_mem hp)
 ·rw[List.getElem?_eq_none hp]at e;exact hn e.symm
def okU(us:List (Option Nat))(k p:Nat):Bool:=match us.getD k none with
 |none=>true
 |some j=>decide (p<=j)
def zo2(ops:Array Oper)(ws:LN)(us:List (Option Nat)):Bool :=
 (List.range ops.size).all λk=>match us.getD k none with
  |none=>true
  |some j=>(List.range ws.length).all λj'=>!(decide (j'<j)) || (zaP ops k).contains (ws.getD j' 0)
def zc9(Fs:List (FW))(us:List (Option Nat))(p:Nat)(ds:List (Option Nat))(T:Nat->Vl)(W:Wo):LN->Prop
 |[]=>True
 |k :: r=>(okU us k p=true->(Fs.getD k λ_ _=>True) W (dv ds T k))/\zc9 Fs us p ds T W r
theorem zc9.mem{Fs:List (FW)}{us:List (Option Nat)}{p:Nat}{ds:List (Option Nat)}{T:Nat->Vl}{W:Wo}:∀{l:LN},(∀k∈l,okU us k p=true->(Fs.getD k λ_ _=>True) W (dv ds T k))->zc9 Fs us p ds T W l
 |[],_=>trivial
 |k :: r,h=>⟨h k sM,zc9.mem λx hx=>h x (by simp[hx])⟩
theorem zc9.at{Fs:List (FW)}{us:List (Option Nat)}{p:Nat}{ds:List (Option Nat)}{T:Nat->Vl}{W:Wo}:∀{l:LN} (k:Nat),zc9 Fs us p ds T W l->k∈l->okU us k p=true->(Fs.getD k λ_ _=>True) W (dv ds T k)
 |[],_,_,h,_=>by simp at h
 |x :: r,k,h,hk,ho=>by
  rcases List.mem_cons.1 hk with rfl|hk
  ·exact h.1 ho
  ·exact zc9.at k h.2 hk ho
def znl(R:Wo->Wo->Prop)(F:FW):Prop:=∀(W W':Wo)(v:Vl),F W v->R W W'->F W' v
def SR(R:Wo->Wo->Prop)(wx:Wo):Prop:=(∀W W',R wx W->BH W W'->R W W')/\(∀W W',R wx W->R W W'->R wx W')/\∀W,R wx W->R wx W.drew
theorem srB{wx:Wo}:SR (Below wx.heap.size) wx:=⟨λ_ _ h k=>k.mono h.size,λ_ _ h k=>h.trans k,λ_ h=>h.drew⟩
theorem srK{G:Nat->Prop}{wx:Wo}:SR (zah G) wx:=⟨λ_ _ _ k=>.of_below k,λ_ _ h k=>h.trans k,λ_ h=>h.drew⟩
def zdt(R:Wo->Wo->Prop):List (Option Nat)->List (FW)->Prop
 |_,[]=>True
 |none :: u,F :: r=>znl R F/\zdt R u r
 |some _ :: u,F :: r=>zkv F/\zdt R u r
 |[],F :: r=>znl R F/\zdt R [] r
theorem zdt.get{R:Wo->Wo->Prop}:∀{us:List (Option Nat)} {l:List (FW)} (k:Nat),zdt R us l->match us.getD k none with|none=>znl R (l.getD k λ_ _=>True)|some _=>zkv (l.getD k λ_ _=>True)
 |us,[],k,_=>by
  cases us.getD k none with
  |none=>exact λ_ _ _ _ _=>trivial
  |some _=>exact λ_ _ _ _ _=>trivial
 |none :: _,_ :: _,0,h=>h.1
 |some _ :: _,_ :: _,0,h=>h.1
 |[],_ :: _,0,h=>h.1
 |none :: _,_ :: _,k+1,h=>zdt.get k h.2
 |some _ :: _,_ :: _,k+1,h=>zdt.get k h.2
 |[],_ :: _,k+1,h=>by
  have:=zdt.get k h.2
  simpa using this
theorem zbC{R:Wo->Wo->Prop}{id:Nat}{a:Act}{w wx:Wo}(hR:SR R wx)(Fs:List (FW))(ds:List (Option Nat))(dl ws:LN)(ph:List (LN))(us:List (Option Nat))(S:Nat->(Nat->Vl)->Wo->Prop)
  (hm:P.follows .mixedOrders=true)(ht:zkF .any ops=true)(hd:ops.toList.map (·.dst)=ds)(hdl:ds.filterMap (λx=>x)=dl)(hnd:dl.Nodup)(hwn:ws.Nodup)(hch:zgS ops ws ph=true)(hus:zo2 ops ws us=true)
  (hS0:S 0 (λk=>a.tmps.getD k undef) w.drew)(hSB:∀p T W W',S p T W->BH W W'->S p T W')(hST:∀p T T' W,p<=ws.length->(∀j,j<ws.length->dv ds T' (ws.getD j 0)=dv ds T (ws.getD j 0))->S p T W->S p T' W)
  (hw:R wx w)(hF:zdt R us Fs)
  (hs:zaO (λi o=>∀(T:Nat->Vl)(W:Wo)(p:Nat),R wx W->p∈ph.getD i []->S p T W->zc9 Fs us p ds T W (zaV .any o) ->
   ∀K:Act->Wo->Prop,(∀v W',((¬ws.getD p ops.size=i->BH W W')/\(ws.getD p ops.size=i->S (p+1) (zcw T o.dst v) W'/\R W W'))->(Fs.getD i λ_ _=>True) W' ((o.dst.map λ_=>v).getD undef)->K (({a with tmps:=ovr a.tmps T dl}:Act).put o.dst v) W') ->
    wpOp P ops Q i K {a with tmps:=ovr a.tmps T dl} W) 0 ops.toList)
  (he:∀T W,R wx W->S ws.length T W->zc9 Fs us ws.length ds T W (List.range ops.size)->Q .normal {a with tmps:=ovr a.tmps T dl} W):(Code.region id ops true).wp P Q a w:=by
 have hnd':(ds.filterMap _root_.id).Nodup:=by
  have:ds.filterMap _root_.id=dl:=hdl;rw[this];exact hnd
 have hdst:∀(i:Nat)(o:Oper),ops[i]?=some o->i<ops.size/\o.dst=ds.getD i none:=by
  intro i o ho;have hi:i<ops.size:=(Array.getElem?_eq_some_iff.1 ho).1;refine⟨hi,?_⟩;have h1:(ops.toList.map (·.dst))[i]?=some o.dst:=by simp[ho]
  rw[hd]at h1;rw[List.getD_eq_getElem?_getD,h1];rfl
 have hwt:∀k o,ops[k]?=some o->zaP ops k=zaV .any o:=by
  intro k o ho;unfold zaP;rw[ho];rfl
 unfold zgS at hch;rw[Bool.and_eq_true,List.all_eq_true,List.all_eq_true]at hch;obtain⟨hc1,hc2⟩:=hch;have hc1:∀j,j<ws.length->ws.getD j 0<ops.size/\(j=0\/ws.getD (j-1) 0∈zaP ops (ws.getD j 0)):=by
  intro j hj;have:=hc1 j (by simpa using hj);rw[Bool.and_eq_true,Bool.or_eq_true]at this;exact⟨of_decide_eq_true this.1,this.2.imp (λh=>by simpa using h) (λh=>by simpa using h)⟩
 have hc2:∀i p,i<ops.size->p<=ws.length->ze8 ops ws i p=true->p∈ph.getD i []:=by
  intro i p hi hp hok;have:=hc2 i (by simpa using hi);rw[List.all_eq_true]at this;have:=this p (by simp;omega);rw[hok]at this
  simpa using this
 have hwj:∀j k,j<ws.length->k<ws.length->ws.getD j 0=ws.getD k 0->j=k:=by
  intro j k hj hk e;rw[List.getD_eq_getElem?_getD,List.getD_eq_getElem?_getD,gE hj,gE hk]at e;exact(List.getElem?_inj hj hwn).1 (by rw[gE hj,gE hk];exact congrArg some e)
 have hgd:∀p,p<ws.length->ws.getD p ops.size=ws.getD p 0:=by
  intro p hp;rw[List.getD_eq_getElem?_getD,List.getD_eq_getElem?_getD,gE hp];rfl
 have hus:∀k,k<ops.size->match us.getD k none with|none=>True|some j=>∀j',j'<ws.length->j'<j->ws.getD j' 0∈zaP ops k:=by
  intro k hk;unfold zo2 at hus;rw[List.all_eq_true]at hus;have h1:=hus k (by simpa using hk)
  cases hj2:us.getD k none with
  |none=>trivial
  |some j=>
   rw[hj2]at h1;simp only[List.all_eq_true]at h1;intro j' h2 h3;have:=h1 j' (by simpa using h2);rw[decide_eq_true h3]at this
   simpa using this
 refine zb7 (λL T W=>R wx W/\(∀k,k<ops.size->L k->∀d∈zaP ops k,L d)/\∃p,p<=ws.length/\(∀j,j<ws.length->(L (ws.getD j 0)↔j<p))/\S p T W/\∀k,k<ops.size->L k->okU us k p=true->(Fs.getD k λ_ _=>True) W (dv ds T k)) dl hm ht ?_ ⟨hR.2.2 _ hw,λk _ h=>h.elim,0,Nat.zero_le _,λj _=>⟨λh=>h.elim,λh=>by omega⟩,hS0,λk _ h=>h.elim⟩ ?_ ?_ ?_
 ·unfold znH;rw[<-hdl,<-hd];simp[List.filterMap_map]
  rfl
 ·have key:∀(l:List Oper)(k:Nat),(∀j o,l[j]?=some o->ops[k+j]?=some o) ->
    zaO (λi o=>∀(T:Nat->Vl)(W:Wo)(p:Nat),R wx W->p∈ph.getD i []->S p T W->zc9 Fs us p ds T W (zaV .any o) ->
     ∀K:Act->Wo->Prop,(∀v W',((¬ws.getD p ops.size=i->BH W W')/\(ws.getD p ops.size=i->S (p+1) (zcw T o.dst v) W'/\R W W'))->(Fs.getD i λ_ _=>True) W' ((o.dst.map λ_=>v).getD undef)->K (({a with tmps:=ovr a.tmps T dl}:Act).put o.dst v) W') ->
      wpOp P ops Q i K {a with tmps:=ovr a.tmps T dl} W) k l ->
    zaO (λi o=>∀(L:Nat->Prop)(T:Nat->Vl)(w:Wo),zea L (zaV .any o)->¬L i->(R wx w/\(∀k,k<ops.size->L k->∀d∈zaP ops k,L d)/\∃p,p<=ws.length/\(∀j,j<ws.length->(L (ws.getD j 0)↔j<p))/\S p T w/\∀k,k<ops.size->L k->okU us k p=true->(Fs.getD k λ_ _=>True) w (dv ds T k)) ->
     ∀K:Act->Wo->Prop,(∀v w',(R wx w'/\(∀k,k<ops.size->(k=i\/L k)->∀d∈zaP ops k,(d=i\/L d))/\∃p,p<=ws.length/\(∀j,j<ws.length->((ws.getD j 0=i\/L (ws.getD j 0))↔j<p))/\S p (zcw T o.dst v) w'/\∀k,k<ops.size->(k=i\/L k)->okU us k p=true->(Fs.getD k λ_ _=>True) w' (dv ds (zcw T o.dst v) k))->K (({a with tmps:=ovr a.tmps T dl}:Act).put o.dst v) w') ->
      wpOp P ops Q i K {a with tmps:=ovr a.tmps T dl} w) k l:=by
   intro l
   induction l with
   |nil=>intro k _ _;trivial
   |cons o r ih=>
    intro k hin h;refine⟨?_,ih (k+1) (λj o' ho=>by have:=hin (j+1) o' (by simpa using ho);rw[show k+1+j=k+(j+1) by omega];exact this) h.2⟩;rintro L T W hL hn⟨hb,hcl,p,hpl,hpj,hSp,hJ⟩K hK;have hko:ops[k]?=some o:=by simpa using hin 0 o rfl
    obtain⟨hks,hkd⟩:=hdst k o hko;have hall:=zea.all hL;have hok:ze8 ops ws k p=true:=by
     unfold ze8;rw[List.all_eq_true];intro j hj;have hj:j<ws.length:=by simpa using hj
     by_cases hjp:j<p
     ·rw[if_pos hjp,Bool.and_eq_true];have hLj:=(hpj j hj).2 hjp;refine⟨?_,?_⟩
      ·rw[Bool.not_eq_true',Bool.eq_false_iff];intro hc;exact hn (hcl _ (hc1 j hj).1 hLj k (by simpa using hc))
      ·rw[Bool.not_eq_true',Bool.eq_false_iff];intro hc;have:ws.getD j 0=k:=by simpa using hc
       rw[this]at hLj;exact hn hLj
     ·rw[if_neg hjp,Bool.not_eq_true',Bool.eq_false_iff];intro hc;have:ws.getD j 0∈zaP ops k:=by simpa using hc
      rw[hwt k o hko]at this;exact hjp ((hpj j hj).1 (hall _ this))
    have hupd:∀(v:Vl)(j:Nat),j<ops.size->j≠k->dv ds (zcw T o.dst v) j=dv ds T j:=by
     intro v j hj hjk;unfold dv
     cases hdj:ds.getD j none with
     |none=>rfl
     |some d=>
      cases hdo:o.dst with
      |none=>rfl
      |some d'=>
       have hne:d≠d':=λe=>by
        exact eN
       simp[zcw,upd,hne]
    refine h.1 T W p hb (hc2 k p hks hpl hok) hSp (zc9.mem λd hdw=>hJ d (Nat.lt_trans (zca ht hko hdw) hks) (hall d hdw)) K λv W' hst hv=>hK v W' ?_
    have hbx:R W W':=by
     by_cases e:ws.getD p ops.size=k
     ·exact(hst.2 e).2
     ·exact hR.1 _ _ hb (hst.1 e)
    have hself:(Fs.getD k λ_ _=>True) W' (dv ds (zcw T o.dst v) k):=by
     have:dv ds (zcw T o.dst v) k=(o.dst.map λ_=>v).getD undef:=by
      unfold dv;rw[<-hkd]
      cases hdo:o.dst with
      |none=>rfl
      |some d=>simp[zcw,upd]
     rw[this];exact hv
    refine⟨hR.2.1 _ _ hb hbx,?_,?_⟩
    ·rintro j hj (rfl|hLj) d hd
     ·rw[hwt _ _ hko]at hd;exact .inr (hall d hd)
     ·exact .inr (hcl j hj hLj d hd)
    ·by_cases e:ws.getD p ops.size=k
     ·have hpl2:p<ws.length:=by
       rcases Nat.lt_or_ge p ws.length with h|h
       ·exact h
       ·rw[List.getD_eq_getElem?_getD,List.getElem?_eq_none h]at e;simp at e;omega
      refine⟨p+1,hpl2,λj hj=>?_,(hst.2 e).1,λj hj hLj ho=>?_⟩
      ·rw[hgd p hpl2]at e
       constructor
       ·rintro(h|h)
        ·have:=hwj j p hj hpl2 (by rw[h,e]);omega
        ·have:=(hpj j hj).1 h;omega
       ·intro h
        by_cases hjp:j=p
        ·subst hjp;exact .inl e
        ·exact .inr ((hpj j hj).2 oM)
      ·by_cases hjk:j=k
       ·subst hjk;exact hself
       ·have hLj:=hLj.resolve_left hjk;rw[hupd v j hj hjk];have hS2:=zdt.get j hF;unfold okU at ho;have hJj:=hJ j hj hLj;unfold okU at hJj;have hu:=hus j hj
        cases hj2:us.getD j none with
        |none=>
         rw[hj2]at hS2 hJj;exact hS2 _ _ _ (hJj rfl) hbx
        |some t=>
         rw[hj2]at ho hu
         exfalso
         have ht2:p+1<=t:=of_decide_eq_true ho;have:=hcl j hj hLj _ (hu p hpl2 oM);have:=(hpj p hpl2).1 this;omega
     ·refine⟨p,hpl,λj hj=>?_,hST p T _ W' hpl (λj hj=>?_) (hSB p T W W' hSp (hst.1 e)),λj hj hLj ho=>?_⟩
      ·constructor
       ·rintro(h|h)
        ·rcases Nat.lt_trichotomy j p with hlt|heq|hgt
         ·exact hlt
         ·subst heq;rw[hgd j hj]at e;exact absurd h e
         ·exfalso
          rcases (hc1 j hj).2 with h0|h0
          ·omega
          ·rw[h,hwt k o hko]at h0;have:=(hpj (j-1) oM).1 (hall _ h0);omega
        ·exact(hpj j hj).1 h
       ·exact λh=>.inr ((hpj j hj).2 h)
      ·refine hupd v _ (hc1 j hj).1 λhh=>?_
       rcases Nat.lt_trichotomy j p with hlt|heq|hgt
       ·exact hn (by rw[<-hh];exact(hpj j hj).2 hlt)
       ·subst heq;rw[hgd j hj]at e;exact e hh
       ·rcases (hc1 j hj).2 with h0|h0
        ·omega
        ·rw[hh,hwt k o hko]at h0;have:=(hpj (j-1) oM).1 (hall _ h0);omega
      ·by_cases hjk:j=k
       ·subst hjk;exact hself
       ·have hLj:=hLj.resolve_left hjk;rw[hupd v j hj hjk];have hS2:=zdt.get j hF;have hJj:=hJ j hj hLj ho
        cases hj2:us.getD j none with
        |none=>
         rw[hj2]at hS2;exact hS2 _ _ _ hJj hbx
        |some t=>
         rw[hj2]at hS2;exact hS2 _ _ _ hJj (hst.1 e)
  exact key ops.toList 0 (λj o ho=>by simpa using ho) hs
 ·rintro T W⟨hb,_,p,hpl,hpj,hSp,hJ⟩;have:p=ws.length:=by
   rcases Nat.lt_or_ge p ws.length with h|h
   ·exact absurd ((hpj p h).1 (hc1 p h).1) oM
   ·omega
  subst this;exact he T W hb hSp (zc9.mem λk hk=>hJ k (by simpa using hk) (by simpa using hk))
 ·rintro L T W hL⟨hb,hcl,p,hpl,hpj,hSp,hJ⟩;refine⟨hb,λk hk _ d hd=>?_,p,hpl,λj hj=>?_,hSp,λk hk _=>hJ k hk (hL k hk)⟩
  ·obtain⟨o,ho⟩:∃o,ops[k]?=some o:=⟨ops[k],Array.getElem?_eq_getElem hk⟩;rw[hwt k o ho]at hd;exact Nat.lt_trans (zca ht ho hd) hk
  ·exact⟨λ_=>(hpj j hj).1 (hL _ (hc1 j hj).1),λ_=>(hc1 j hj).1⟩
theorem zau{R:Wo->Wo->Prop}{id:Nat}{a:Act}{w wx:Wo}(hR:SR R wx)(Fs:List (FW))(ds:List (Option Nat))(dl ws:LN)(ph:List (LN))(us:List (Option Nat))(S:Nat->(Nat->Vl)->Wo->Prop)

  (hS0:∀T,S 0 T w.drew) (hSB:∀p T W W',S p T W->BH W W'->S p T W') (hST:∀p T T' W,(∀j,j<p->dv ds T' (ws.getD j 0)=dv ds T (ws.getD j 0))->S p T W->S p T' W)
  (hw:R wx w) (hF:zdt R us Fs)
  (hs:zaO (λi o=>∀(T:Nat->Vl)(W:Wo)(p:Nat),R wx W->p∈ph.getD i []->S p T W->zc9 Fs us p ds T W (zaV .any o) ->
   ∀K:Act->Wo->Prop,(∀v W',((¬ws.getD p ops.size=i->BH W W')/\(ws.getD p ops.size=i->S (p+1) (zcw T o.dst v) W'/\R W W'))->(Fs.getD i λ_ _=>True) W' ((o.dst.map λ_=>v).getD undef)->K (({a with tmps:=ovr a.tmps T dl}:Act).put o.dst v) W') ->
    wpOp P ops Q i K {a with tmps:=ovr a.tmps T dl} W) 0 ops.toList)
  (he:∀T W,R wx W->S ws.length T W->zc9 Fs us ws.length ds T W (List.range ops.size)->Q .normal {a with tmps:=ovr a.tmps T dl} W)
  (hm:P.follows .mixedOrders=true:=by kernel_rfl) (ht:zkF .any ops=true:=by kernel_rfl) (hd:ops.toList.map (·.dst)=ds:=by kernel_rfl) (hdl:ds.filterMap (λx=>x)=dl:=by kernel_rfl) (hnd:dl.Nodup:=by exact of_decide_eq_true (by kernel_rfl)) (hwn:ws.Nodup:=by exact of_decide_eq_true (by kernel_rfl)) (hch:zgS ops ws ph=true:=by kernel_rfl) (hus:zo2 ops ws us=true:=by kernel_rfl):(Code.region id ops true).wp P Q a w :=
 zbC hR Fs ds dl ws ph us S hm ht hd hdl hnd hwn hch hus (hS0 _) hSB (λp T T' W hp h=>hST p T T' W λj hj=>h j (Nat.lt_of_lt_of_le hj hp)) hw hF hs he
end
def zoC(w:Wo)(v:Vl):Prop:=∀g,v.ownBlock=some g->∀cur t fr,w.heap[g]?=some (.cells cur t fr)->∀u∈cur.toList,zaM u
theorem zew(w:Wo)(cur:Array Vl)(e:TypeId)(n c:Nat)(h:∀u∈cur.toList,zaM u):zoC (w.alloc (.cells cur e)) (.slice (some ⟨w.heap.size,0,none⟩) n c):=by
 intro g hg cur' t fr hc;simp only[Value.ownBlock,Option.some.injEq]at hg;subst hg;rw[heap_alloc_new]at hc;simp only[Option.some.injEq,Obj.cells.injEq]at hc;obtain⟨rfl,_,_⟩:=hc;exact h
section
variable {P : Program}
theorem zbD(w:Wo)(base:Nat)(t ty e:TypeId)(i:TypeInfo)(z:Vl)(ht:P.underlying t=some (.slice e))(hi:P.info? e=some i)(hz:i.zero=some z)
  (hzs:z.cells.size=i.size)(hsz:0<i.size)(v:Vl)(n:Nat)(xs:List Vl)(hown:w.ownsRow base e i.size v n xs)(hp:zoC w v)
  (a:Addr)(m c:Nat)(news:List Vl)(hl:news.length=m*i.size)(hnews:∀j u,news[j]?=some u->w.cell? (a.add j)=some u)(h1:∀u∈news,u.oneCell'=true)
  (h63:n+m<=maxLen)(hbytes:(n+m)*i.bytes<=140737488355328)(hbase:base<=w.heap.size)(hm:0<m)(hzn:∀u∈z.cells.toList,zaM u)(hnn:∀u∈news,zaM u) :
  ∃v' w',(Builtin.append_ #[t,t] ty #[v,.slice (some a) m c]).run P w=.ok v' w'/\w'.ownsRow base e i.size v' (n+m) (xs++news)/\w.grownBy w' v.ownBlock/\zoC w' v':=by
 obtain⟨v',w',hr,h2,h3,h4⟩:=run_append_own (P:=P) w base t ty e i z i.size i.bytes ht hi hz rfl rfl hzs hsz v n xs hown a m c news hl hnews h1 h63 hbytes hbase;refine⟨v',w',hr,h2,h3,?_⟩;have hm63:n+m<=9223372036854775807:=by simp only[maxLen]at h63;omega
 rcases hown.2 with⟨rfl,rfl⟩|⟨g,cap,cur,rfl,hbg,hg,hnc,hcm,hcs,htake⟩
 ·have hr2:=run_append_nil (P:=P) w t ty e i z ht hi hz a m c news hl hnews hm oM (by have hb:=hbytes;simp only[Nat.zero_add]at hb;omega);have he:=hr.symm.trans hr2;simp only[Result.ok.injEq]at he;obtain⟨rfl,rfl⟩:=he;refine zew w.drew _ e _ _ λu hu=>?_
  simp only[Array.toList_append,List.mem_append]at hu;rcases hu with hu|hu
  ·exact hnn u (by simpa using hu)
  ·exact hzn u (zdu hu)
 ·by_cases hroom:n+m<=cap
  ·have hfit:n*i.size+news.length<=cur.size:=by rw[hl,hcs,<-Nat.add_mul];exact Nat.mul_le_mul_right _ hroom
   have hr2:=run_append_room (P:=P) w t ty e i ht hi g n cap cur hg a m c news hl hnews h1 hroom hfit;have he:=hr.symm.trans hr2;simp only[Result.ok.injEq]at he;obtain⟨rfl,rfl⟩:=he;intro g' hg' cur' t' fr' hc';simp only[Value.ownBlock,Option.some.injEq]at hg';subst hg';rw[setRow_heap w g cur _ e _ hg]at hc';simp only[Option.some.injEq,Obj.cells.injEq]at hc';obtain⟨rfl,_,_⟩:=hc';have hcur:=hp g rfl cur e _ hg;intro u hu;simp only[List.mem_append]at hu;rcases hu with(hu|hu)|hu
   ·exact hcur u (List.mem_of_mem_take hu)
   ·exact hnn u hu
   ·exact hcur u (List.mem_of_mem_drop hu)
  ·have holds:∀j u,xs[j]?=some u->w.cell? ((⟨g,0,none⟩:Addr).add j)=some u:=hown.cells (g:=g) rfl;have hr2:=run_append_grow (P:=P) w t ty e i z ht hi hz ⟨g,0,none⟩ n cap xs hown.1 holds a m c news hl hnews oM oM (growslice_fits oM hbytes);have he:=hr.symm.trans hr2;simp only[Result.ok.injEq]at he;obtain⟨rfl,rfl⟩:=he;have hcur:=hp g rfl cur e _ hg;refine zew w.drew _ e _ _ λu hu=>?_
   simp only[Array.toList_append,List.mem_append]at hu;rcases hu with(hu|hu)|hu
   ·have:u∈xs:=by simpa using hu
    rw[<-htake]at this;exact hcur u (List.mem_of_mem_take this)
   ·exact hnn u hu
   ·exact hzn u (zdu hu)
end
def znG(l:LN):List Vl:=l.map λb=>.int .i64 (b:Nat)
def zky(w:Wo)(B:Nat)(v:Vl)(l:LN):Prop:=w.ownsRow B 3 1 v l.length (znG l)/\zoC w v
theorem zky.nil(w:Wo)(B:Nat):zky w B nS_ []:=⟨World.ownsRow_nil _ _ _ _,λg hg=>by simp[Value.ownBlock]at hg⟩
theorem zky.kept{G:Nat->Prop}{w w':Wo}{B:Nat}(h:zky w B v l)(hk:zah G w w')(hv:∀b,v.ownBlock=some b->¬G b):zky w' B v l:=by
 refine⟨zaZ h.1 hk hv,λg hg cur t fr hc=>?_⟩;have hlt:=(World.ownsRow.lt h.1 g hg).2;exact h.2 g hg cur t fr ((hk.block g hlt (hv g hg)).symm.trans hc)
theorem zky.lt{w:Wo}{B:Nat}(h:zky w B v l):∀b,v.ownBlock=some b->B<=b/\b<w.heap.size:=World.ownsRow.lt h.1
theorem Tryz.info3:(Tryz.prog.info? 3).map (λi=>(i.zero,i.size,i.bytes))=some (some (.int .i64 0),1,8):=by kernel_rfl
theorem Tryz.slice55:Tryz.prog.underlying 55=some (.slice 3):=by kernel_rfl
theorem zjk(w W:Wo)(ty:TypeId)(B:Nat)(v:Vl)(l:LN)(k bx c:Nat)(hown:zky w B v l)(hB:B<=w.heap.size)(hb:Below B W w)
  (hc:w.cell? (aD_ bx 0)=some (.int .i64 (k:Nat)))(hl:l.length<=1000000) :
  ∃v' w',(Builtin.append_ #[55,55] ty #[v,.slice (sD bx 0) 1 c]).run Tryz.prog w=.ok v' w'/\zky w' B v' (l++[k])/\Below B W w'/\w.grownBy w' v.ownBlock/\(v'.ownBlock=v.ownBlock\/v'.ownBlock=some w.heap.size):=by
 obtain⟨i0,hi,hz0,hz1,hz2⟩:=info_parts Tryz.info3;have hn:∀(j:Nat)(u:Vl),[Value.int .i64 (k:Nat)][j]?=some u->w.cell? ((⟨bx,0,none⟩:Addr).add j)=some u:=by
  intro j u hj
  match j,hj with
  |0,hj=>simp at hj;subst hj;simpa [Addr.add]using hc
  |j+1,hj=>simp at hj
 have h1:∀u∈[Value.int .i64 (k:Nat)],u.oneCell'=true:=by intro u hu;simp at hu;subst hu;rfl
 obtain⟨v',w',hr,h3,h4,h5⟩:=zbD (P:=Tryz.prog) w B 55 ty 3 i0 (.int .i64 0) Tryz.slice55 hi hz0 (by rw[hz1];rfl) (by rw[hz1];decide) v l.length (znG l) (by rw[hz1];exact hown.1) hown.2 ⟨bx,0,none⟩ 1 c [.int .i64 (k:Nat)] (by rw[hz1];rfl) hn h1 (by unfold maxLen;omega) (by rw[hz2];omega) hB oM
  (by intro u hu z e;simp[Value.cells]at hu;subst hu;cases e) (by intro u hu z e;simp at hu;subst hu;cases e)
 obtain⟨v2,w2,hr2,_,_,_,hat⟩:=run_append_own_at (P:=Tryz.prog) w B 55 ty 3 i0 (.int .i64 0) i0.size i0.bytes Tryz.slice55 hi hz0 rfl rfl (by rw[hz1];rfl) (by rw[hz1];decide) v l.length (znG l) (by rw[hz1];exact hown.1) ⟨bx,0,none⟩ 1 c [.int .i64 (k:Nat)] (by rw[hz1];rfl) hn h1 (by unfold maxLen;omega) (by rw[hz2];omega) hB;have he:=hr.symm.trans hr2;simp only[Result.ok.injEq]at he;obtain⟨rfl,rfl⟩:=he;refine⟨v',w',hr,⟨?_,h5⟩,hb.grown h4 hB λk hk=>(World.ownsRow.lt hown.1 k hk).1,h4,hat⟩;rw[hz1]at h3;rw[List.length_append];unfold znG;rw[List.map_append];exact h3
theorem zaI.base{w:Wo}{B:Nat}{l:List Qo}(h:zaI w B' v l)(hB:B<=B'):zaI w B v l:=by
 obtain⟨xs,h1,h2,h3⟩:=h;refine⟨xs,⟨h1.1,h1.2.imp _root_.id ?_⟩,h2,h3⟩;exact eE
structure TG(W:Wo)(B g:Nat)(vA vB:Vl)(bs:LN)(ow:List (Vl×List Qo)):Prop where
 oA:zhe W B vA (ow.map (·.1))
 oB:zky W B vB bs
 o:∀p∈ow,zaI W B p.1 p.2/\Sep vA p.1/\Sep vB p.1/\p.1.ownBlock≠some g
 s:ow.Pairwise λp q=>Sep p.1 q.1
 sAB:Sep vA vB
 gA:vA.ownBlock≠some g/\vB.ownBlock≠some g
 gl:g<W.heap.size
theorem TG.nil{B:Nat}(hg:g<W.heap.size):TG W B g nS_ nS_ [] [] :=
 ⟨zhe.nil _ _,zky.nil _ _,λp hp=>by simp at hp,.nil,zce _,⟨by simp[Value.ownBlock],by simp[Value.ownBlock]⟩,hg⟩
section
variable {W W' : Wo} {B g : Nat} {vA vB : Vl} {bs : LN} {ow : List (Vl × List Qo)}
theorem TG.mono(h:TG W B g vA vB bs ow)(hb:BH W W'):TG W' B g vA vB bs ow:=by
 have hk:zah (λ_=>False) W W':=.of_below hb;exact⟨h.oA.kept hk λ_ _ h=>h,h.oB.kept hk λ_ _ h=>h,λp hp=>⟨(h.o p hp).1.mono hb,(h.o p hp).2⟩,h.s,h.sAB,h.gA,Nat.lt_of_lt_of_le h.gl hb.size⟩
theorem TG.kept{G:Nat->Prop}(h:TG W B g vA vB bs ow)(hk:zah G W W')(hp:NoU G W)(hA:∀b,vA.ownBlock=some b->¬G b)(hB:∀b,vB.ownBlock=some b->¬G b)(hO:∀p∈ow,∀b,p.1.ownBlock=some b->¬G b):TG W' B g vA vB bs ow :=
 ⟨h.oA.kept hk hA,h.oB.kept hk hB,λp hp'=>⟨(h.o p hp').1.keptU hk hp (hO p hp'),(h.o p hp').2⟩,h.s,h.sAB,h.gA,Nat.lt_of_lt_of_le h.gl hk.size⟩
theorem TG.keptg(h:TG W B g vA vB bs ow)(hk:zah (λb=>b=g) W W')(hp:NoU (λb=>b=g) W):TG W' B g vA vB bs ow :=
 h.kept hk hp (λb e e2=>h.gA.1 (by rw[e,e2])) (λb e e2=>h.gA.2 (by rw[e,e2])) λp hp' b e e2=>(h.o p hp').2.2.2 (by rw[e,e2])
theorem TG.slA(h:TG W B g vA vB bs ow):∃a n c,vA=.slice a n c:=by
 rcases h.oA.1.2 with⟨e,_⟩|⟨g',cap,cur,e,_⟩
 ·exact⟨_,_,_,e⟩
 ·exact⟨_,_,_,e⟩
theorem TG.slB(h:TG W B g vA vB bs ow):∃a n c,vB=.slice a n c:=by
 rcases h.oB.1.2 with⟨e,_⟩|⟨g',cap,cur,e,_⟩
 ·exact⟨_,_,_,e⟩
 ·exact⟨_,_,_,e⟩
theorem Row.under{g1:Nat}{E:TypeId}{xs:List Vl}{B':Nat}(h:Row W g1 E xs)(hb:Below B' W W')(hk:g1<B'):Row W' g1 E xs:=(hb.block g1 hk).trans h
theorem Row.oth{g1 g2 k:Nat}{E:TypeId}{xs:List Vl}(h:Row W g1 E xs)(hne:g1≠g2)(x:Vl):Row (W.setCell (aD_ g2 k) x) g1 E xs:=h.mono ((zah.refl W:zah (λb=>b=g2) W W).setCell (p:=⟨g2,k,none⟩) rfl _) hne
theorem zaI.sl{v:Vl}{l:List Qo}(h:zaI W B v l):∃a n c,v=.slice a n c:=by
 obtain⟨ao,cap,e,_⟩:=h.read;exact⟨_,_,_,e⟩
theorem zgF{u v v':Vl}(h:Sep u v)(hu:∀b,u.ownBlock=some b->b<W.heap.size)(hn:v'.ownBlock=v.ownBlock\/v'.ownBlock=some W.heap.size):Sep u v':=by
 intro b hb;rcases hn with e|e
 ·rw[e];exact h b hb
 ·rw[e];intro e2;have:=hu b hb;simp only[Option.some.injEq]at e2;omega
theorem TG.appA{X:Wo}(h:TG W B g vA vB bs ow)(hbW:BH W W'){ar:OA}{n cr bx c:Nat}{l:List Qo}(hx:zaI W' W.heap.size (.slice ar n cr) l)(hB:B<=W.heap.size)(hb:Below B X W')(ty:TypeId)
  (hc:W'.cell? (aD_ bx 0)=some (.slice ar n cr))(hl:ow.length<=1000000) :
  ∃v' w',(Builtin.append_ #[103,103] ty #[vA,.slice (sD bx 0) 1 c]).run Tryz.prog W'=.ok v' w'/\TG w' B g v' vB bs (ow++[(.slice ar n cr,l)])/\Below B X w'/\Grw W' w' vA v':=by
 have hs:=hbW.size;have h2:=h.mono hbW;obtain⟨v',w',hr,h3,h4,gr⟩:=zfQ W' X ty B vA (ow.map (·.1)) ar n cr bx c h2.oA oM hb hc (by rw[List.length_map];exact hl);have lA:∀b,vA.ownBlock=some b->b<W.heap.size:=λb e=>(h.oA.lt b e).2
 have lB:∀b,vB.ownBlock=some b->b<W.heap.size:=λb e=>(h.oB.lt b e).2
 have lO:∀p∈ow,∀b,p.1.ownBlock=some b->b<W.heap.size:=λp hp b e=>((h.o p hp).1.lt b e).2
 have lX:∀b,(Value.slice ar n cr).ownBlock=some b->W.heap.size<=b/\b<W'.heap.size:=hx.lt;have sXA:Sep (.slice ar n cr) vA:=λb hb e=>by have:=lX b hb;have:=lA b e;omega
 have sXB:Sep (.slice ar n cr) vB:=λb hb e=>by have:=lX b hb;have:=lB b e;omega
 have sv:∀{u:Vl},Sep u vA->(∀b,u.ownBlock=some b->b<W'.heap.size)->Sep u v':=λhu hl=>zgF hu hl gr.new
 refine⟨v',w',hr,⟨by rw[List.map_append];exact h3,h2.oB.kept gr.kept λb e=>h.sAB.symm b e,?_,?_,(sv h.sAB.symm λb e=>by have:=lB b e;omega).symm,⟨?_,h.gA.2⟩,Nat.lt_of_lt_of_le h2.gl gr.grown.size⟩,h4,gr⟩
 ·intro p hp;rcases List.mem_append.1 hp with hp|hp
  ·exact⟨(h2.o p hp).1.kept gr.kept gr.noG λb e=>(h.o p hp).2.1.symm b e,(sv (h.o p hp).2.1.symm λb e=>by have:=lO p hp b e;omega).symm,(h.o p hp).2.2⟩
  ·simp only[List.mem_singleton]at hp;subst hp;refine⟨(hx.kept gr.kept gr.noG λb e=>sXA b e).base hB,(sv sXA λb e=>(lX b e).2).symm,sXB.symm,λe=>?_⟩;have:=(lX g e).1;have:=h.gl;omega
 ·rw[List.pairwise_append];refine⟨h.s,List.pairwise_singleton _ _,λp hp q hq=>?_⟩;simp only[List.mem_singleton]at hq;subst hq;intro b hb e;have:=lO p hp b hb;have:=(lX b e).1;omega
 ·rcases gr.new with e|e
  ·rw[e];exact h.gA.1
  ·rw[e];intro e2;simp only[Option.some.injEq]at e2;have:=h2.gl;omega
theorem TG.appB{X:Wo}(h:TG W B g vA vB bs ow)(hB:B<=W.heap.size)(hb:Below B X W)(ty:TypeId){k bx c:Nat}(hc:W.cell? (aD_ bx 0)=some (.int .i64 (k:Nat)))(hl:bs.length<=1000000) :
  ∃v' w',(Builtin.append_ #[55,55] ty #[vB,.slice (sD bx 0) 1 c]).run Tryz.prog W=.ok v' w'/\TG w' B g vA v' (bs++[k]) ow/\Below B X w'/\zah (λb=>vB.ownBlock=some b) W w'/\NoU (λb=>vB.ownBlock=some b) W:=by
 obtain⟨v',w',hr,h3,h4,hg,hn⟩:=zjk W X ty B vB bs k bx c h.oB hB hb hc hl;have hk:zah (λb=>vB.ownBlock=some b) W w':=.of_grown hg;have hno:NoU (λb=>vB.ownBlock=some b) W:=λb hb=>h.oB.2 b hb
 refine⟨v',w',hr,⟨h.oA.kept hk λb e=>h.sAB b e,h3,λp hp=>?_,h.s,zgF h.sAB (λb e=>(h.oA.lt b e).2) hn,⟨h.gA.1,?_⟩,Nat.lt_of_lt_of_le h.gl hg.size⟩,h4,hk,hno⟩
 ·exact⟨(h.o p hp).1.keptU hk hno λb e=>(h.o p hp).2.2.1.symm b e,(h.o p hp).2.1,(zgF (h.o p hp).2.2.1.symm (λb e=>((h.o p hp).1.lt b e).2) hn).symm,(h.o p hp).2.2.2⟩
 ·rcases hn with e|e
  ·rw[e];exact h.gA.2
  ·rw[e];intro e2;simp only[Option.some.injEq]at e2;have:=h.gl;omega
end
theorem zaI.addr'{w:Wo}{B:Nat}{l:List Qo}(h:zaI w B v l)(hl:0<l.length):∃g cap,v=.slice (sD g 0) l.length cap:=by
 obtain⟨xs,h1,_⟩:=h;rcases h1.2 with⟨_,hn⟩|⟨g,cap,cur,e,hB,_⟩
 ·omega
 ·exact⟨g,cap,e⟩
theorem TG.low{B:Nat}(h:TG W B g vA vB bs ow)(hB:B'<=B):TG W B' g vA vB bs ow:=by
 have key:∀{e s n:Nat} {v:Vl} {xs:List Vl},W.ownsRow B e s v n xs->W.ownsRow B' e s v n xs:=λh1=>by
  refine⟨h1.1,h1.2.imp _root_.id ?_⟩;exact eE
 exact⟨⟨key h.oA.1,h.oA.2⟩,⟨key h.oB.1,h.oB.2⟩,λp hp=>⟨(h.o p hp).1.base hB,(h.o p hp).2⟩,h.s,h.sAB,h.gA,h.gl⟩
theorem TG.tb{B m n:Nat}{b0:Nat->Nat}(h:TG W B g vA vB bs ow)(henv:∃w0,Env w0/\w0.heap.size=B/\Below B w0 W)
  (hbox:Row W g 164 [.int .i64 (m:Nat),.int .i64 (n:Nat),vA,vB,.int .i64 0])(hg:B<=g)(how:ow.map (·.2)=(List.range (m+1)).map λi=>zbt L i (q+1))(hbs:bs=(List.range m).map b0)
  (hm:0<m)(hs:m<=1000/\n<=1000)(hq:q=n+m):∃ga ca gb cb rr cr,TB W B g ga ca gb cb m n q rr cr L b0:=by
 have hlo:ow.length=m+1:=by have:=congrArg List.length how;simpa using this
 have hlb:bs.length=m:=by rw[hbs];simp
 have hget:∀i,i<=m->∃p,ow[i]?=some p/\p.2=zbt L i (q+1):=λi hi=>by
  have hi':i<ow.length:=oM;refine⟨ow[i],gE hi',?_⟩;have h1:=congrArg (λl=>l[i]?) how;simp only[List.getElem?_map,gE hi',List.getElem?_range (show i<m+1 by omega),Option.map_some,Option.some.injEq]at h1;exact h1
 have hex:∀i,∃rc:Nat×Nat,i<=m->ow[i]?=some (.slice (some ⟨rc.1,0,none⟩) (q+1) rc.2,zbt L i (q+1)):=λi=>by
  by_cases hi:i<=m
  ·obtain⟨p,hp,e⟩:=hget i hi;obtain⟨g',cap,e2⟩:=(h.o p (List.mem_of_getElem? hp)).1.addr' (by rw[e,zap];omega);rw[e,zap]at e2;refine⟨(g',cap),λ_=>?_⟩;rw[hp];exact congrArg some (Prod.ext e2 e)
  ·exact⟨(0,0),λh=>absurd h hi⟩
 obtain⟨rc,hrc⟩:=Classical.axiomOfChoice hex;obtain⟨ga,ca,eA⟩:∃ga ca,vA=.slice (sD ga 0) (m+1) ca:=by
  rcases h.oA.1.2 with⟨_,hn⟩|⟨g',cap,cur,e,_⟩
  ·rw[List.length_map,hlo]at hn;omega
  ·rw[List.length_map,hlo]at e;exact⟨g',cap,e⟩
 obtain⟨gb,cb,eB⟩:∃gb cb,vB=.slice (sD gb 0) m cb:=by
  rcases h.oB.1.2 with⟨_,hn⟩|⟨g',cap,cur,e,_⟩
  ·rw[hlb]at hn;omega
  ·rw[hlb]at e;exact⟨g',cap,e⟩
 subst eA;subst eB;have hmem:∀i,i<=m->(Value.slice (some ⟨(rc i).1,0,none⟩) (q+1) (rc i).2,zbt L i (q+1))∈ow:=λi hi=>List.mem_of_getElem? (hrc i hi)
 refine⟨ga,ca,gb,cb,λi=>(rc i).1,λi=>(rc i).2,henv,hbox,λi hi=>?_,λi hi=>(h.o _ (hmem i hi)).1,?_,λk hk=>by subst hk;exact h.oB.2 k rfl,λi t hi ht e=>?_,λi hi=>?_,?_,⟨hg,(h.oA.lt ga rfl).1⟩,(h.oA.lt ga rfl).2,hs,hq⟩
 ·exact zaE h.oA.1 (by rw[List.getElem?_map,hrc i hi];rfl)
 ·have:=h.oB.1;rw[hlb]at this;have e:znG bs=zlz b0 m:=by rw[hbs];unfold znG zlz;rw[List.map_map];rfl
  rw[e]at this;exact this
 ·by_cases hit:i=t
  ·exact hit
  ·exfalso
   have key:∀i t,i<t->t<=m->(rc i).1=(rc t).1->False:=λi t hlt ht e=>by
    have hi:i<=m:=oM;have h1:=hrc i hi;have h2:=hrc t ht;have li:i<ow.length:=oM;have lt':t<ow.length:=oM;rw[gE li]at h1;rw[gE lt']at h2;have:=List.pairwise_iff_getElem.1 h.s i t li lt' hlt;rw[Option.some.inj h1,Option.some.inj h2]at this;exact this (rc i).1 rfl (by rw[e];rfl)
   rcases Nat.lt_or_gt_of_ne hit with h1|h1
   ·exact key i t h1 ht e
   ·exact key t i h1 hi e.symm
 ·have h1:=h.o _ (hmem i hi);refine⟨λe=>h1.2.2.2 (by rw[<-e];rfl),λe=>?_,λe=>?_⟩
  ·exact h1.2.1 ga rfl (by rw[<-e];rfl)
  ·exact h1.2.2.1 gb rfl (by rw[<-e];rfl)
 ·refine⟨λe=>h.gA.1 (by rw[e];rfl),λe=>h.gA.2 (by rw[e];rfl),λe=>?_⟩;exact h.sAB ga rfl (by rw[e];rfl)
theorem Row.noG'{w:Wo}{E:TypeId}(h:Row w g E xs)(hn:∀u∈xs,zaJ u):NoG (λb=>b=g) w:=by
 intro k hk cur t fr hc;subst hk;have:=h.symm.trans hc;simp only[Option.some.injEq,Obj.cells.injEq]at this;obtain⟨rfl,_,_⟩:=this;exact hn
theorem TB.tail{B ga ca gb cb m n:Nat}{rr cr:Nat->Nat}{bs:Nat->Nat}(h:TB W B g ga ca gb cb m n q rr cr L bs)(hn:n<=q):UQ W (some ⟨rr m,n*4,none⟩) ((List.range (q-n)).map λi=>some (L m (n+i))):=by
 intro j o hj;have hjk:j<q-n:=by
  rcases Nat.lt_or_ge j (q-n)with h|h
  ·exact h
  ·rw[List.getElem?_eq_none (by simp;omega)]at hj;cases hj
 rw[List.getElem?_map,List.getElem?_range hjk]at hj
 cases hj
 obtain⟨n1,a1,l1,c1,n2,a2,l2,c2,e0,e1,e2,e3,-,-,-,-,hV⟩:=h.cells4 (i:=m) (j:=n+j) (Nat.le_refl m) oM;rw[Nat.add_mul]at e0 e1 e2 e3;exact⟨rr m,n*4,n1,a1,l1,c1,n2,a2,l2,c2,rfl,⟨e0,e1,e2,e3,trivial,trivial,trivial,trivial⟩,hV⟩
theorem zla{w:Wo}{B:Nat}(h:zgr w B v xs)(hB:B'<=B):zgr w B' v xs:=by
 refine⟨h.1,h.2.imp id ?_⟩;rintro⟨g,cap,cur,hv,hb,r⟩;exact⟨g,cap,cur,hv,Nat.le_trans hB hb,r⟩
theorem zms{w:Wo}{n E:Nat}{x y:Vl}(h:Row w n E [x,y]):∀j u,[x,y][j]?=some u->w.cell? ⟨n,0+j,none⟩=some u:=by
 intro j u hj
 match j,hj with
 |0,hj=>simp at hj;subst hj;exact h.cell (k:=0) sM
 |1,hj=>simp at hj;subst hj;exact h.cell (k:=1) sM
 |j+2,hj=>simp at hj
theorem zig(pg:Prg)(v:Vl)(w:Wo)(h:zoz w v pg)(hE:Env w) :
  CP 114 #[v] w λe w'=>e=.returned (.int .i64 pg.err)/\BH w w':=by
 obtain⟨aA,cA,aB,cB,aC,cC,rfl,uA,uB,uC⟩:=h;go_enter func114,ntmps114;go_upto_region 1 with fail;have hb0:=bA w (.cells #[.slice aA pg.A.length cA,.slice aB pg.B.length cB,.slice aC pg.C.length cC] 105);have rA:Row (w.alloc (.cells #[.slice aA pg.A.length cA,.slice aB pg.B.length cB,.slice aC pg.C.length cC] 105)) w.heap.size 105 [.slice aA pg.A.length cA,.slice aB pg.B.length cB,.slice aC pg.C.length cC]:=heap_alloc_new _ _;obtain⟨g,hg⟩:=exi (w.heap.size);rw[<-hg]at rA|-;have Hg:=hii hg;clear hg;generalize w.alloc (.cells #[.slice aA pg.A.length cA,.slice aB pg.B.length cB,.slice aC pg.C.length cC] 105)=w1 at*;have HA:=hii (uA.mono hb0);have HB:=hii (uB.mono hb0);have HCC:=hii (uC.mono hb0);have hE:=hE.mono hb0;have Hb0:=hii hb0;clear uA uB uC hb0;refine zau srB (wx:=w1) [vf (pT g 1),vf (.slice aB pg.B.length cB),vf (.int .i64 pg.B.length),vf (pT g 2),vf (.slice aC pg.C.length cC),vf (.int .i64 pg.C.length),(λ_ _=>True),vf (.int .i64 pg.B.length),(λ_ _=>True)] [some 6,some 7,some 8,some 9,some 10,some 11,some 4,some 3,none] [6,7,8,9,10,11,4,3] [6,8] [[0,1],[0,1],[0,1],[0,1],[0,1],[0,1],[0],[1],[1]] [none,none,none,none,none,none,none,none,none] (λp T W=>match p with|0=>True|1=>∃nb,T 4=pT nb 0/\w1.heap.size<=nb/\Row W nb 3 [.int .i64 0]|_+2=>∃nb,T 4=pT nb 0/\w1.heap.size<=nb/\Row W nb 3 [.int .i64 pg.C.length]) (λT=>trivial) (λp T W W' h hb=>match p,h with|0,h=>trivial|1,h=>⟨h.choose,h.choose_spec.1,h.choose_spec.2.1,h.choose_spec.2.2.below hb⟩|_+2,h=>⟨h.choose,h.choose_spec.1,h.choose_spec.2.1,h.choose_spec.2.2.below hb⟩) (λp T T' W hT h=>match p,hT,h with|0,_,h=>h|1,hT,h=>(by have e0:T' 4=T 4:=hT 0 dM;have h:∃nb,T 4=pT nb 0/\w1.heap.size<=nb/\Row W nb 3 [.int .i64 0]:=h;show ∃nb,T' 4=pT nb 0/\w1.heap.size<=nb/\Row W nb 3 [.int .i64 0];rw[e0];exact h)|_+2,hT,h=>(by have e0:T' 4=T 4:=hT 0 oM;have h:∃nb,T 4=pT nb 0/\w1.heap.size<=nb/\Row W nb 3 [.int .i64 pg.C.length]:=h;show ∃nb,T' 4=pT nb 0/\w1.heap.size<=nb/\Row W nb 3 [.int .i64 pg.C.length];rw[e0];exact h)) br ⟨zac _ _,zac _ _,zac _ _,zac _ _,zac _ _,zac _ _,(λ_ _ _ h _=>h),zac _ _,(λ_ _ _ h _=>h),trivial⟩ ⟨?s0,?s1,?s2,?s3,?s4,?s5,?s6,?s7,?s8,trivial⟩ ?he
 case' s0|s1|s2|s3|s4|s5|s6|s7|s8=>
  rintro T W p hb hp hS hA K hK
 case' s0|s3=>
  clear hS;simp only[sA]at hK|-
 case' s1=>
  clear hS;have e0:T 6=_:=hA.1 rfl;obtain⟨x0,x1,x2⟩:=(rA.below hb).n3;simp only[sA,e0]at hK|-
 case' s2=>
  clear hS;have e1:T 7=_:=hA.1 rfl;simp only[sA,e1]at hK|-
 case' s4=>
  clear hS;have e3:T 9=_:=hA.1 rfl;obtain⟨x0,x1,x2⟩:=(rA.below hb).n3;simp only[sA,e3]at hK|-
 case' s5=>
  clear hS;have e4:T 10=_:=hA.1 rfl;simp only[sA,e4]at hK|-
 case' s7=>
  clear hS;have e2:T 8=_:=hA.1 rfl;simp only[sA,e2]at hK|-
 case s0|s1|s2|s3|s4|s5|s7=>
  exact cE
 case s6=>
  obtain rfl:p=0:=by simpa using hp
  have hS:True:=hS;simp only[sA]at hK|-;have HK:=hii hK;clear hK hA;refine wO rfl ?_;go_simp;obtain⟨w2,hw2⟩:∃w2,w2=W.alloc (.cells #[.int .i64 0] 3):=⟨_,rfl⟩;have hb1:BH W w2:=by rw[hw2];exact bA W _
  have hrow:Row w2 W.heap.size 3 [.int .i64 0]:=by rw[hw2];exact heap_alloc_new W _
  rw[<-hw2]
  try dsimp only
  exact HK.o _ _ ⟨λh=>absurd rfl h,λ_=>⟨⟨_,rfl,hb.size,hrow⟩,hb1.mono hb.size⟩⟩ (trivial)
 case s8=>
  obtain rfl:p=1:=by simpa using hp
  have hS:∃nb,T 4=pT nb 0/\w1.heap.size<=nb/\Row W nb 3 [.int .i64 0]:=hS;have e5:T 11=_:=hA.2.1 rfl;obtain⟨n4,e6,hge,R4⟩:=hS;have y0:=R4.cell (k:=0) sM;have y1:=R4.free 0;simp only[sA,e5,e6]at hK|-;have HK:=hii hK;clear hK hA;refine wO rfl ?_;go_simp;exact HK.o undef _ ⟨λh=>absurd rfl h,λ_=>⟨⟨n4,e6,hge,R4.set 0 _⟩,(Below.refl _ W).setCell (p:=⟨n4,0,none⟩) hge _⟩⟩ (trivial)
 case he=>
  rintro T W hb hS hA;have hS:∃nb,T 4=pT nb 0/\w1.heap.size<=nb/\Row W nb 3 [.int .i64 pg.C.length]:=hS;have f7:T 3=.int .i64 pg.B.length:=hA.at 7 dM rfl;obtain⟨n4,f4,-,hrow⟩:=hS;have rN:Row W n4 3 [.int .i64 pg.C.length]:=hrow;clear hrow;have hbw:=Hb0.o.trans (hb.mono Hb0.o.size);have HA:=hii (HA.o.mono hb);have HB:=hii (HB.o.mono hb);have HCC:=hii (HCC.o.mono hb);have hE:=hE.mono hb;have rA:=rA.below hb;obtain⟨x0,x1,x2⟩:=rA.n3;have y0:=rN.cell (k:=0) sM;simp only[List.getElem_cons_zero]at y0;simp only[sA,f4,f7];clear hA f4 f7 hb;obtain⟨wl,rfl⟩:=exi W
  by_cases h1:pg.B.length<1
  ·have g1:(pg.B.length:Int)<1:=oM;exact dV
  have g1:¬(pg.B.length:Int)<1:=oM
  by_cases h2:14<pg.B.length
  ·have g2:(14:Int)<(pg.B.length:Int):=oM;exact dV
  have g2:¬(14:Int)<(pg.B.length:Int):=oM
  by_cases h3:pg.C.length<1
  ·have g3:(pg.C.length:Int)<1:=oM;exact dV
  have g3:¬(pg.C.length:Int)<1:=oM
  by_cases h4:400<pg.C.length
  ·have g4:(400:Int)<(pg.C.length:Int):=oM;exact dV
  have g4:¬(400:Int)<(pg.C.length:Int):=oM
  by_cases h5:pg.A.length≠pg.B.length
  ·have g5:((pg.A.length:Int) != (pg.B.length:Int))=true:=by rw[bne_iff_ne];omega
   exact dV
  have g5:((pg.A.length:Int) != (pg.B.length:Int))=false:=by rw[bne_eq_false_iff_eq];omega
  have hm:pg.A.length=pg.B.length:=oM;have hml:pg.B.length<=14:=oM;have hnl:pg.C.length<=400:=oM;have hn1:0<pg.C.length:=oM;have hm1:0<pg.B.length:=oM;have H0:Hid (¬(pg.B.length<1\/14<pg.B.length\/pg.C.length<1\/400<pg.C.length\/pg.A.length≠pg.B.length)):=hii oM;have hAl:pg.A.length<=1000000000:=oM;have eg1:∀args w,(callFunc 148 args).run Tryz.prog w=.ok (.enter 148 args) w:=enters_of func148 (by kernel_rfl) rfl;have HT:zks 148 #[pT n4 0] (λr=>r.length != pg.C.length) pg.A wl:=by
   intro o ar cr W2 _ _ _ hbb;exact zgA ar o.length cr pg.C.length n4 W2 (((rN.below hbb).cell (k:=0) sM).trans rfl)
  have hC:=zeg 148 #[pT n4 0] (λr=>r.length != pg.C.length) eg1 pg.A aA cA wl hAl HA.o hE HT;rw[hm]at hC;have HC:=hii hC;clear hC eg1 HT hAl;obtain⟨bad,hbad⟩:∃b,b=pg.A.any (λr=>r.length != pg.C.length):=⟨_,rfl⟩;rw[<-hbad]at HC;have Hbad:=hii hbad;clear hbad;go_wp2_with fail;go_fit (HC.o);rintro e w2⟨rfl,hb⟩;have HA:=hii (HA.o.mono hb);have HB:=hii (HB.o.mono hb);have HCC:=hii (HCC.o.mono hb);have hE:=hE.mono hb;have rA:=rA.below hb;have hbw:=bu hbw hb;clear hb HC x0 x1 x2 y0 rN
  cases bad with
  |true=>
   go_wp2;go_ret;refine⟨?_,hbw⟩;obtain⟨r,hr,hl⟩:=List.any_eq_true.1 Hbad.o.symm;rw[zmQ hr (by simpa using hl)];rfl
  |false=>
   have HR:Hid (∀r∈pg.A,r.length=pg.C.length):=hii λr hr=>by
    have:=List.any_eq_false.1 Hbad.o.symm r hr
    simpa using this
   clear Hbad;go_upto_region 6 with fail;have Hm:=hii hm;have Hml:=hii hml;have Hnl:=hii hnl;obtain⟨b0,off0,xs,rfl,hro,hcs,hone⟩:=HA.o.rows oM;have Hb0l:Hid (∀{W:Wo},BH w2 W->b0<W.heap.size):=hii λhb=>by
    have h0:0<xs.length:=by have:=hro.1;omega
    have:=zaf (hcs 0 xs[0] (gE h0));have:=hb.size;simp at*;omega
   have Hro:=hii hro;have Hcs:=hii hcs;have Hone:=hii hone;clear hro hcs hone hm hml hnl h5 g5 h1 h2 h3 h4 g1 g2 g3 g4 hn1 hm1;refine zau srB (wx:=w2) [vf (pT g 0),vf (.slice (sD b0 off0) pg.A.length cA),(λW v=>zgr W w2.heap.size v xs),vf (pT g 1),vf (.slice aB pg.B.length cB),vf (pT g 2),vf (.slice aC pg.C.length cC),(λW v=>∃n,v=.slice (sD n 0) 2 2/\Row W n 33 [.slice aB pg.B.length cB,.slice aC pg.C.length cC]),(λ_ _=>True),vf (.int .i64 (zbb pg.all)),vf (.int .i64 (zbb pg.all))] [some 37,some 38,some 39,some 40,some 41,some 42,some 43,some 44,some 45,some 46,some 5] [37,38,39,40,41,42,43,44,45,46,5] [8] [[0,1],[0,1],[0],[0,1],[0,1],[0,1],[0,1],[0],[0],[1],[1]] [none,none,some 0,none,none,none,none,some 0,none,none,none] (λp T W=>match p with|0=>True|_+1=>∃(L:List (List Qo))(ao:OA)(cap:Nat),Hid (L=pg.A++[pg.B,pg.C])/\T 45=.slice ao L.length cap/\UM W ao L) (λT=>trivial) (λp T W W' h hb=>match p,h with|0,h=>trivial|_+1,h=>⟨h.choose,h.choose_spec.choose,h.choose_spec.choose_spec.choose,h.choose_spec.choose_spec.choose_spec.1,h.choose_spec.choose_spec.choose_spec.2.1,h.choose_spec.choose_spec.choose_spec.2.2.mono hb⟩) (λp T T' W hT h=>match p,hT,h with|0,_,h=>h|_+1,hT,h=>(by have e0:T' 45=T 45:=hT 0 oM;have h:∃(L:List (List Qo))(ao:OA)(cap:Nat),Hid (L=pg.A++[pg.B,pg.C])/\T 45=.slice ao L.length cap/\UM W ao L:=h;show ∃(L:List (List Qo))(ao:OA)(cap:Nat),Hid (L=pg.A++[pg.B,pg.C])/\T' 45=.slice ao L.length cap/\UM W ao L;rw[e0];exact h)) br ⟨zac _ _,zac _ _,λ_ _ _ h hb=>h.mono hb,zac _ _,zac _ _,zac _ _,zac _ _,λ_ _ _ ⟨n,e,h⟩ hb=>⟨n,e,h.below hb⟩,(λ_ _ _ h _=>h),zac _ _,zac _ _,trivial⟩ ⟨?s0,?s1,?s2,?s3,?s4,?s5,?s6,?s7,?s8,?s9,?s10,trivial⟩ ?he
   case' s0|s1|s2|s3|s4|s5|s6|s7|s8|s9|s10=>
    rintro T W p hb hp hS hA K hK
   case' s0|s3|s5=>
    clear hS;simp only[sA]at hK|-
   case' s1=>
    clear hS;have e0:T 37=_:=hA.1 rfl;obtain⟨x0,x1,x2⟩:=(rA.below hb).n3;simp only[sA,e0]at hK|-
   case' s4=>
    clear hS;have e3:T 40=_:=hA.1 rfl;obtain⟨x0,x1,x2⟩:=(rA.below hb).n3;simp only[sA,e3]at hK|-
   case' s6=>
    clear hS;have e5:T 42=_:=hA.1 rfl;obtain⟨x0,x1,x2⟩:=(rA.below hb).n3;simp only[sA,e5]at hK|-
   case' s10=>
    obtain rfl:p=1:=by simpa using hp
    clear hS;have e9:T 46=_:=hA.1 rfl;simp only[sA,e9]at hK|-
   case s0|s1|s3|s4|s5|s6|s10=>
    exact cE
   case s2=>
    clear hS;have e1:T 38=_:=hA.1 rfl;simp only[sA,e1]at hK|-;have HK:=hii hK;clear hK hA;refine wO rfl ?_;go_simp;have hC:=zif xs b0 off0 cA W (by have:=Hro.o.1;have:=Hm.o;have:=Hml.o;omega) (Hb0l.o hb) (λj u hj=>(hb.cell (p:=⟨b0,off0+j,none⟩) (zaf (Hcs.o j u hj))).trans (Hcs.o j u hj)) Hone.o;rw[Hro.o.1]at hC;(with_reducible refine hC.mono ?_);rintro e w1⟨⟨v,rfl,hv⟩,hb1⟩;have hv:zgr w1 w2.heap.size v xs:=zla hv hb.size
    try dsimp only
    exact HK.o _ _ ⟨λ_=>hb1,λh=>absurd h (zas dM dM)⟩ (hv)
   case s7=>
    clear hS;have e4:T 41=_:=hA.1 rfl;have e6:T 43=_:=hA.2.1 rfl;simp only[sA,e4,e6]at hK|-;have HK:=hii hK;clear hK hA;refine wO rfl ?_;go_simp;obtain⟨w1,hw1⟩:∃w1,w1=W.alloc (.cells #[.slice aB pg.B.length cB,.slice aC pg.C.length cC] 33):=⟨_,rfl⟩;have hb1:BH W w1:=by rw[hw1];exact bA W _
    have hrow:Row w1 W.heap.size 33 [.slice aB pg.B.length cB,.slice aC pg.C.length cC]:=by rw[hw1];exact heap_alloc_new W _
    rw[<-hw1]
    try dsimp only
    exact HK.o _ _ ⟨λ_=>hb1,λh=>absurd h (zas dM dM)⟩ (⟨_,rfl,hrow⟩)
   case s8=>
    obtain rfl:p=0:=by simpa using hp
    have hS:True:=hS;have r2:((λW v=>zgr W w2.heap.size v xs):FW) W (T 39):=hA.1 dM;have r7:(_:FW) W (T 44):=hA.2.1 dM;simp only[sA]at hK|-;have HK:=hii hK;clear hK hA;obtain⟨n7,e7,hrow⟩:=r7;have hq:=hrow;obtain⟨v1,w1,hr,ho,hbw1,hsz⟩:=zjj W W 103 w2.heap.size _ xs [.slice aB pg.B.length cB,.slice aC pg.C.length cC] n7 0 2 r2 hb.size br (zms hrow) (by intro u hu;simp at hu;rcases hu with rfl|rfl<;>rfl) (by have:=Hro.o.1;have:=Hm.o;have:=Hml.o;simp;omega);have hbw2:=hb.trans hbw1;have hum:=ho.um ((Hro.o.mono hbw2).two (HB.o.mono hbw2) (HCC.o.mono hbw2));simp only[List.length_cons,List.length_nil,Nat.zero_add,Nat.reduceAdd]at hr;rw[<-e7]at hr;refine wO rfl ?_;refine zat _ _ rfl rfl rfl hr ?_;simp only[Act.put,List.setIfInBounds_toArray,List.set_cons_zero,List.set_cons_succ];exact HK.o _ _ ⟨λh=>absurd rfl h,λ_=>⟨⟨_,hum.choose,hum.choose_spec.choose,hii rfl,hum.choose_spec.choose_spec⟩,hbw1⟩⟩ (trivial)
   case s9=>
    obtain rfl:p=1:=by simpa using hp
    have hS:∃(L:List (List Qo))(ao:OA)(cap:Nat),Hid (L=pg.A++[pg.B,pg.C])/\T 45=.slice ao L.length cap/\UM W ao L:=hS;obtain⟨L8,ao8,Y8,hL8,e8,hu8⟩:=hS;clear hS;simp only[sA,e8]at hK|-;have HK:=hii hK;clear hK hA;refine wO rfl ?_;go_simp;have hrl:∀r∈L8,r.length<=1000000:=by
     intro r hr;rw[hL8.o]at hr;have:=Hml.o;have:=Hnl.o;rcases List.mem_append.1 hr with h|h
     ·rw[HR.o r h];omega
     ·simp at h;rcases h with rfl|rfl<;>omega
    go_fit (zgT L8 ao8 Y8 W (by rw[hL8.o];have:=Hm.o;have:=Hml.o;simp;omega) hrl hu8 (hE.mono hb));rw[show L8.flatten=pg.all by rw[hL8.o];simp[Prg.all]];rintro e w1⟨rfl,hb1⟩
    try dsimp only
    exact HK.o _ _ ⟨λ_=>hb1,λh=>absurd h (zas dM dM)⟩ (rfl)
   case he=>
    rintro T W hb hS hA;have hS:∃(L:List (List Qo))(ao:OA)(cap:Nat),Hid (L=pg.A++[pg.B,pg.C])/\T 45=.slice ao L.length cap/\UM W ao L:=hS;have f10:T 5=.int .i64 (zbb pg.all):=hA.at 10 dM rfl;have hbw:=bu hbw hb;have HB:=hii (HB.o.mono hb);have rA:=rA.below hb;have hE:=hE.mono hb;simp only[sA,f10];obtain⟨E,hEE⟩:∃E,E=zbb pg.all:=⟨_,rfl⟩;rw[<-hEE];have HEE:=hii hEE;have HBl:Hid (pg.B.length<=1000000000):=hii (by have:=Hml.o;omega);clear hA f10 hb hEE HA HCC Hro Hcs Hone Hb0l Hm Hml Hnl;obtain⟨w3,rfl⟩:=exi W
    by_cases hz:E=0
    ·subst hz;have HN0:=hii (zgU HEE.o.symm);have eg2:∀args w,(callFunc 151 args).run Tryz.prog w=.ok (.enter 151 args) w:=enters_of func151 (by kernel_rfl) rfl;have HT:zni 151 #[] zgW pg.B w3:=by
      intro o v W2 ho hv hE2 hbb;have hs:=HN0.o o (List.mem_append_left _ (List.mem_append_right _ ho))
      cases o with
      |none=>cases hs
      |some r=>exact zgz v r W2 hv hE2
     have HC:=hii (zbo 151 #[] zgW eg2 pg.B aB cB w3 HBl.o HB.o hE HT);clear eg2 HT;obtain⟨bn,hbn⟩:∃b,b=pg.B.any zgW:=⟨_,rfl⟩;rw[<-hbn]at HC;have Hbn:=hii hbn;clear hbn HB HBl;obtain⟨x0,x1,x2⟩:=rA.n3;go_wp2_with fail;go_fit (HC.o);rintro e w4⟨rfl,hb⟩;have hbw:=bu hbw hb;clear hb HC x0 x1 x2
     cases bn with
     |true=>
      go_wp2;go_ret;refine⟨?_,hbw⟩;rw[zfk H0.o HR.o,<-HEE.o];have:znF pg.B=true:=Hbn.o.symm;rw[this];rfl
     |false=>
      go_wp2;go_ret;refine⟨?_,hbw⟩;rw[zfk H0.o HR.o,<-HEE.o];have:znF pg.B=false:=Hbn.o.symm;rw[this];rfl
    ·have g1:((E:Int) != 0)=true:=by rw[bne_iff_ne];omega
     have Hz:=hii hz;clear hz;go_wp2;go_ret;refine⟨?_,hbw⟩;rw[zfk H0.o HR.o,<-HEE.o,if_pos Hz.o];rfl
end Go.Proofs.YtfgffkmddanjjaaGreatDoor
