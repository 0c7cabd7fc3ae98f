/-
  load.Of; what the law LoadOf needs.
-/
import Derived.Test.YtfgffkmddanjjaaGreatDoorNa
set_option linter.unusedVariables false
set_option linter.unusedSimpArgs false
set_option maxRecDepth 100000
set_option maxHeartbeats 25600000
namespace Go.Proofs.YtfgffkmddanjjaaGreatDoor
open _root_.Go.Proofs.Tryz
open Go.RowKit
variable {a:Act} {ops:Array Oper} {J1:Bool} {Q:Exit->Act->Wo->Prop} {R S l:LN} {sh:List ((Nat × Nat) × Rat)} {rest:List Oper} {Y1 Z1 k m1 n1 off:Nat} {ao1 ap1:OA} {v:Vl}
structure znu(R S:LN)(L:List ((Nat×Nat)×Qo)):Prop where
 len:1<=L.length/\L.length<=11
 add:∀k x,(L.map (·.2))[k]?=some (some x)->zcI (zbc (((L.map (·.2)).take k).map zeb)) x
 ok:L.any (zaX R S)=false->zav (L.map (·.2))=0->∃D sh,L=shQ sh/\ShD D 255 sh/\zbc (sh.map (·.2))=1
theorem zmo{a b:List ((Nat×Nat)×Rat)}(h:shQ a=shQ b):a=b:=by
 have e:=congrArg (List.map λs:(Nat×Nat)×Qo=>(s.1,zeb s.2)) h;rw[zcS,zcS]at e;exact e
theorem zgD(sh:List ((Nat×Nat)×Rat)):(shQ sh).map (·.2)=(sh.map (·.2)).map some:=by
 unfold shQ;rw[List.map_map,List.map_map]
 rfl
theorem zcL(l:List Rat):(l.map (some:Rat->Qo)).map zeb=l:=by
 rw[List.map_map];exact(List.map_congr_left λx _=>rfl).trans (List.map_id l)
theorem ShD.addS{D:Int}{M:Nat}(h:ShD D M sh){x:Rat}(hk:(sh.map (·.2))[k]?=some x):zcI (zbc ((sh.map (·.2)).take k)) x:=by
 have hx:∀y∈sh.map (·.2),Sx.Wh (y*(D:Rat)) M:=λy hy=>by
  obtain⟨s,hs,rfl⟩:=List.mem_map.1 hy;exact h.wh s hs
 refine(h.dn.sum1 (by have:=h.len;simp;omega) λy hy=>hx y (List.mem_of_mem_take hy)).addS (h.dn.kb (hx _ (List.mem_of_getElem? hk))) dM
theorem znu.miss{L:List ((Nat×Nat)×Qo)}(hm:L.any (zaX R S)=false){s:(Nat×Nat)×Qo}(hs:s∈L):s.1∈prs R S:=by
 have h:=List.any_eq_false.1 hm s hs;unfold zaX at h;simp only[Bool.or_eq_true,Bool.not_eq_true',not_or,Bool.not_eq_false,List.any_eq_true,decide_eq_true_eq]at h;obtain⟨⟨a,ha,e1⟩,⟨b,hb,e2⟩⟩:=h;unfold prs;simp only[List.mem_flatMap,List.mem_map];exact⟨s.1.1,by rw[<-e1];exact ha,s.1.2,by rw[<-e2];exact hb,rfl⟩
theorem znu.best{f:Rat}{cap:List Rat}{m:Nat}{L:List ((Nat×Nat)×Qo)}(h:znu R S L)(W:WkM R S f cap m)(hm:L.any (zaX R S)=false)(hp:zav (L.map (·.2))=0) :
  ∃sh,L=shQ sh/\OfS f cap sh/\Kb 2 (mxS f cap sh m)/\∀n M ld P Q,Bal (prs R S) f cap m n M ld P Q->ld<=mxS f cap sh m:=by
 obtain⟨D,sh,rfl,hD,h1⟩:=h.ok hm hp;refine⟨sh,rfl,hD.ofS W,hD.mxK W nl,λn M ld P Q B=>?_⟩;refine B.le (λs hs=>znu.miss (s:=(s.1,some s.2)) hm (by unfold shQ;exact List.mem_map.2 ⟨s,hs,rfl⟩)) hD.pos h1 λi hi=>?_
 obtain⟨c,hc,hcd,hc0,-,-⟩:=W.cap_at hi;have h2:=zl0 (f:=f) (cap:=cap) (sh:=sh) hi;rw[hcd]at h2|-;exact(div_le_iff' hc0).1 h2
def zlG(o:Qo):Prop:=∀r,o=some r->r.num.natAbs<10 ^ 270/\r.den<10 ^ 270
theorem zjS{r:Rat}(h:r.num.natAbs<10 ^ 270/\r.den<10 ^ 270):zcI 1 r:=by
 have hB:10 ^ 270+10 ^ 270<Bi.Big:=by unfold Bi.Big;decide+kernel
 have e1:(1:Rat).num=1:=rfl;have e2:(1:Rat).den=1:=rfl;have k1:((1:Rat).num*(r.den:Int)).natAbs=r.den:=by rw[e1,Int.one_mul];rfl
 have k2:(r.num*((1:Rat).den:Int)).natAbs=r.num.natAbs:=by rw[e2];simp
 refine⟨⟨?_,?_⟩,?_,?_⟩
 ·show((1:Rat).num*(r.den:Int)).natAbs<Bi.Big
  rw[k1];omega
 ·show(r.num*((1:Rat).den:Int)).natAbs<Bi.Big
  rw[k2];omega
 ·show((1:Rat).num*(r.den:Int)+r.num*((1:Rat).den:Int)).natAbs<Bi.Big
  have:=Int.natAbs_add_le ((1:Rat).num*(r.den:Int)) (r.num*((1:Rat).den:Int));omega
 ·show(((1:Rat).den:Int)*(r.den:Int)).natAbs<Bi.Big
  rw[e2];have:(((1:Nat):Int)*(r.den:Int)).natAbs=r.den:=sM;omega
theorem zmM(R S:LN)(hl:l.length<=10)(h8:∀x∈l,x<=255):znu R S (shQ (zfx R S l)):=by
 obtain⟨D,-,-,hD⟩:=zhq R S hl h8;have hn:=zeT R S hl;refine⟨by simp[shQ];omega,λk x hk=>?_,λ_ _=>⟨D,_,rfl,hD,zhp R S l⟩⟩;rw[zgD,List.getElem?_map]at hk;rw[zgD,<-List.map_take,zcL]
 cases hq:((zfx R S l).map (·.2))[k]? with
 |none=>rw[hq]at hk;cases hk
 |some y=>
  rw[hq]at hk
  cases hk
  exact hD.addS hq
theorem zmN(R S:LN)(hl:l.length<=10)(h8:∀x∈l,x<=255)(q:Nat×Nat){o:Qo}(ho:zlG o):znu R S (shQ (zfx R S l)++[(q,o)]):=by
 obtain⟨D,-,-,hD⟩:=zhq R S hl h8;have hn:=zeT R S hl;have h1:=zhp R S l;obtain⟨sh,hsh⟩:∃sh,zfx R S l=sh:=⟨_,rfl⟩;rw[hsh]at hD hn h1|-;have hmap:(shQ sh++[(q,o)]).map (·.2)=(sh.map (·.2)).map some++[o]:=by rw[List.map_append,zgD];rfl
 obtain⟨ps,hps⟩:∃ps,sh.map (·.2)=ps:=⟨_,rfl⟩;have hpl:ps.length=sh.length:=by rw[<-hps,List.length_map]
 have hadd:∀k x,ps[k]?=some x->zcI (zbc (ps.take k)) x:=λk x hk=>by
  rw[<-hps]at hk|-;exact hD.addS hk
 have hbad:∀x∈ps,ziM (some x)=false:=λx hx=>by
  rw[<-hps]at hx;obtain⟨s,hs,rfl⟩:=List.mem_map.1 hx;exact decide_eq_false (Rat.not_lt.2 (hD.pos s hs))
 rw[hps]at hmap h1;refine⟨by simp[shQ];omega,λk x hk=>?_,λ_ hp=>?_⟩
 ·rw[hmap]at hk|-;rcases Nat.lt_or_ge k ps.length with hk2|hk2
  ·rw[List.getElem?_append_left (by rw[List.length_map];exact hk2),List.getElem?_map]at hk;rw[List.take_append_of_le_length (by rw[List.length_map];omega),<-List.map_take,zcL]
   cases hq:ps[k]? with
   |none=>rw[hq]at hk;cases hk
   |some y=>
    rw[hq]at hk
    cases hk
    exact hadd k _ hq
  ·have hk3:k=ps.length:=by
    have:=(List.getElem?_eq_some_iff.1 hk).1;simp at this;omega
   subst hk3;rw[List.getElem?_append_right (by rw[List.length_map];exact nl),List.length_map,Nat.sub_self]at hk;simp only[List.getElem?_cons_zero,Option.some.injEq]at hk;rw[List.take_append_of_le_length (by rw[List.length_map];exact nl),List.take_of_length_le (by rw[List.length_map];exact nl),zcL,h1];exact zjS (ho _ hk)
 ·rw[hmap]at hp;have hany:((ps.map (some:Rat->Qo))++[o]).any ziM=ziM o:=by
   rw[List.any_append,List.any_map];have:ps.any (ziM∘some)=false:=List.any_eq_false.2 λx hx=>by rw[Function.comp_apply,hbad x hx];decide
   rw[this];simp
  have hs:sumO (((ps.map (some:Rat->Qo))++[o]).map zeb)=znh (some 1) (zeb o):=by
   rw[List.map_append,zcL,List.map_cons,List.map_nil,zcO];have:=zgB hadd ps.length nl;rw[List.take_length,h1]at this;rw[this]
  cases o with
  |none=>
   unfold zav at hp;rw[hany,if_pos (show ziM none=true from rfl)]at hp
   cases hp
  |some x=>
   by_cases hx0:x<0
   ·unfold zav at hp;rw[hany,if_pos (show ziM (some x)=true from decide_eq_true hx0)]at hp
    cases hp
   have hp2:zav (ps.map (some:Rat->Qo)++[some x])=if 1+x=1 then 0 else 1:=zfY (by rw[hany];exact decide_eq_false hx0) (hs.trans (zdE (zjS (ho x rfl))))
   rw[hp2]at hp;have hx1:x=0:=by
    by_cases h:1+x=1
    ·grind
    ·rw[if_neg h]at hp;cases hp
   subst hx1;refine⟨D,sh++[(q,0)],by unfold shQ;rw[List.map_append];rfl,⟨hD.dn,by simp;omega,λs hs=>?_,λs hs=>?_⟩,?_⟩
   ·rcases List.mem_append.1 hs with hs|hs
    ·exact hD.pos s hs
    ·simp at hs;subst hs;exact Rat.le_refl
   ·rcases List.mem_append.1 hs with hs|hs
    ·exact hD.wh s hs
    ·simp at hs;subst hs;rw[Rat.zero_mul];exact Sx.wh_zero.mono (Nat.zero_le _)
   ·rw[List.map_append,hps,List.map_cons,List.map_nil,zbf,h1]
    grind
def zmb(w:Wo)(v:Vl):Prop :=
 ∃(x1 x2:Bool)(l1 l2:LN)(a1 a2:OA)(c1 c2:Nat),v=.agg #[.bool x1,.slice a1 l1.length c1,.bool x2,.slice a2 l2.length c2]/\l1.length<=c1/\l2.length<=c2/\U w a1 l1/\U w a2 l2
theorem zmb.mono{w w':Wo}(h:zmb w v)(hb:BH w w'):zmb w' v:=by
 obtain⟨x1,x2,l1,l2,a1,a2,c1,c2,e,k1,k2,u1,u2⟩:=h;exact⟨x1,x2,l1,l2,a1,a2,c1,c2,e,k1,k2,u1.mono hb,u2.mono hb⟩
theorem zoe{n:Nat}(h:(Bi.limbs n).length<=30):n<10 ^ 270:=by
 have:=Bi.val_lt (Bi.limbs_ok n);rw[Bi.val_limbs]at this;exact Nat.lt_of_lt_of_le this (Nat.le_trans (Nat.pow_le_pow_right dM h) (by decide+kernel))
theorem zad.few{w:Wo}{K1:Bool}{r:Rat}(h:zad w (qA J1 ao1 n1 Y1 K1 ap1 m1 Z1) r)(h1:n1<=30)(h2:m1<=30):r.num.natAbs<10 ^ 270/\r.den<10 ^ 270:=by
 obtain⟨_,_,_,_,_,_,_,_,e,i1,i2⟩:=h
 cases e
 obtain⟨_,_,L1,_,e1,_,k1,_,_,_,_⟩:=i1;obtain⟨_,_,L2,_,e2,_,k2,_,_,_,_⟩:=i2;simp only[Value.agg.injEq,Array.mk.injEq,List.cons.injEq,Value.slice.injEq,and_true]at e1 e2;refine⟨zoe (by rw[<-k1.o,<-e1.2.2.1];exact h1),?_⟩;have:=zoe (n:=((r.den:Int)).natAbs) (by rw[<-k2.o,<-e2.2.2.1];exact h2);exact this
theorem zmb.few{w:Wo}{x1 x2:Bool}{l1 l2:LN}{a1 a2:OA}{c1 c2:Nat}(k1:l1.length<=c1)(k2:l2.length<=c2)(u1:U w a1 l1)(u2:U w a2 l2)(h1:l1.length<=30)(h2:l2.length<=30) :
  ∃o,QV w (.agg #[.bool x1,.slice a1 l1.length c1,.bool x2,.slice a2 l2.length c2]) o/\zlG o:=by
 classical
 by_cases hv:zgp x1 l1 x2 l2
 ·have hq:VQ w (.agg #[.bool x1,.slice a1 l1.length c1,.bool x2,.slice a2 l2.length c2]) true:=⟨x1,x2,l1,l2,a1,a2,c1,c2,rfl,oM,oM,k1,k2,u1,u2,hii ⟨λ_=>hv,λ_=>rfl⟩⟩;obtain⟨r,hr⟩:=hq.rat;exact⟨some r,hr,λr' e=>by cases e;exact hr.few h1 h2⟩
 ·have hq:VQ w (.agg #[.bool x1,.slice a1 l1.length c1,.bool x2,.slice a2 l2.length c2]) false:=⟨x1,x2,l1,l2,a1,a2,c1,c2,rfl,oM,oM,k1,k2,u1,u2,hii ⟨(λh=>nomatch h),λh=>absurd h hv⟩⟩;exact⟨none,hq,λr' e=>by cases e⟩
theorem za6.shQ{w:Wo}{B:Nat}(h:za6 59 6 zaD w B v sh):za6 59 6 zaL w B v (shQ sh):=by
 obtain⟨els,h1,h2,h3,h4,h5⟩:=h;refine⟨els,by rw[h1];simp[Go.Proofs.YtfgffkmddanjjaaGreatDoor.shQ],h2,by rw[show(Go.Proofs.YtfgffkmddanjjaaGreatDoor.shQ sh).length=sh.length by simp[Go.Proofs.YtfgffkmddanjjaaGreatDoor.shQ]];exact h3,h4,λi c a hc ha=>?_⟩;unfold Go.Proofs.YtfgffkmddanjjaaGreatDoor.shQ at ha;rw[List.getElem?_map]at ha
 cases hs:sh[i]? with
 |none=>rw[hs]at ha;cases ha
 |some x=>
  rw[hs]at ha
  cases ha
  obtain⟨J1,ao1,n1,Y1,K1,ap1,m1,Z1,e2,hr⟩:=h5 i c x hc hs;exact⟨J1,ao1,n1,Y1,K1,ap1,m1,Z1,e2,hr⟩
theorem znd{o:Oper}(w W:Wo)(B:Nat)(hgd:o.guard=none)(s x:Operand)(ho:o.op=.call {callee:=.builtin .append,args:=#[s,x],argTypes:=#[37,37]})
 {L:List ((Nat×Nat)×Qo)}{n c r s':Nat}{K1:Bool}{p:Qo}(hs:a.eval s=v)(hx:a.eval x=.slice (sD n 0) 1 c)(hown:za6 59 6 zaL w B v L)(hB:B<=w.heap.size)(hb:Below B W w)
  (hr:Row w n 59 [.int .u16 (r:Nat),.int .u16 (s':Nat),.bool J1,.slice ao1 n1 Y1,.bool K1,.slice ap1 m1 Z1])(hq:QV w (.agg #[.bool J1,.slice ao1 n1 Y1,.bool K1,.slice ap1 m1 Z1]) p)(hl:L.length<=1000000)
  (hK:∀v2 w',za6 59 6 zaL w' B v2 (L++[((r,s'),p)])->Below B W w'->wpList Tryz.prog ops Q rest (a.put o.dst v2) w') :
  wpList Tryz.prog ops Q (o :: rest) a w:=by
 obtain⟨v',w',k1,k2,k3,_,_⟩:=zdK zaL zag Tryz.slice37 Tryz.info59 rfl dM dM zlW w W o.type B v L ((r,s'),p) n c [.int .u16 (r:Nat),.int .u16 (s':Nat),.bool J1,.slice ao1 n1 Y1,.bool K1,.slice ap1 m1 Z1] hown hB hb rfl (λj u hu=>by
  obtain⟨hj,rfl⟩:=List.getElem?_eq_some_iff.1 hu;exact hr.cell hj) zoN zlW ⟨_,_,_,_,_,_,_,_,rfl,hq⟩ hl
 exact wpList_plain hgd λK hK'=>zat s x ho hs hx k1 (hK' _ _ (hK v' w' k2 k3))
theorem EU.els{w:Wo}{b:Nat}{L:List ((Nat×Nat)×Qo)}(h:EU 6 zaL w (sD b off) L):∃els:List (List Vl),els.length=L.length/\(∀c∈els,c.length=6)/\(∀(i:Nat)(c:List Vl),els[i]?=some c->∀(j:Nat)(u:Vl),c[j]?=some u->w.cell? ⟨b,off+(i*6+j),none⟩=some u)/\∀(i:Nat)(c:List Vl)(a:(Nat×Nat)×Qo),els[i]?=some c->L[i]?=some a->zaL w c a:=by
 classical
 have hc:∀i:Nat,∃c:List Vl,∀a,L[i]?=some a->c.length=6/\(∀(j:Nat)(u:Vl),c[j]?=some u->w.cell? ⟨b,off+(i*6+j),none⟩=some u)/\zaL w c a:=λi=>by
  cases hq:L[i]? with
  |none=>exact⟨[],λa e=>by cases e⟩
  |some x=>
   obtain⟨b',off',c,e,hk,hc,hr⟩:=h i x hq
   cases e
   exact⟨c,λa e=>by cases e;exact⟨hk,hc,hr⟩⟩
 let g:Nat->List Vl:=λi=>Classical.choose (hc i)
 have hg:∀i a,L[i]?=some a->_:=λi a=>Classical.choose_spec (hc i) a
 refine⟨(List.range L.length).map g,sM,λc hcm=>?_,λi c hi=>?_,λi c a hi ha=>?_⟩
 ·obtain⟨i,hi,rfl⟩:=List.mem_map.1 hcm;exact(hg i _ (gE (List.mem_range.1 hi))).1
 ·rw[List.getElem?_map]at hi;rcases Nat.lt_or_ge i L.length with hl|hl
  ·rw[List.getElem?_range hl]at hi
   cases hi
   exact(hg i _ (gE hl)).2.1
  ·rw[List.getElem?_eq_none (by simp;omega)]at hi;cases hi
 ·rw[List.getElem?_map,List.getElem?_range (List.getElem?_eq_some_iff.1 ha).1]at hi
  cases hi
  exact(hg i a ha).2.2
theorem flat_lenN:∀(els:List (List Vl)),(∀c∈els,c.length=k)->els.flatten.length=els.length*k
 |[],_=>by simp
 |c :: r,h=>by
  rw[List.flatten_cons,List.length_append,h c sM,flat_lenN r (λd hd=>h d (by simp[hd])),List.length_cons,Nat.add_mul];omega
theorem flat_backN(hk:0<k)(els:List (List Vl))(h:∀c∈els,c.length=k)(j:Nat)(u:Vl)(hj:els.flatten[j]?=some u):∃c,els[j / k]?=some c/\c[j % k]?=some u:=by
 have hlt:j<els.length*k:=by rw[<-flat_lenN els h];exact(List.getElem?_eq_some_iff.1 hj).1
 have hq:j / k<els.length:=Nat.div_lt_of_lt_mul (by rw[Nat.mul_comm];exact hlt);have hc:=gE hq;have hm:j % k<(els[j / k]).length:=by rw[h _ (List.getElem_mem hq)];exact Nat.mod_lt _ hk
 have hu:=gE hm;have:=zfj els h (j / k) _ hc (j % k) _ hu;rw[show j / k*k+j % k=j by rw[Nat.mul_comm];exact Nat.div_add_mod j k,hj]at this
 cases this
 exact⟨_,hc,hu⟩
theorem znc{o:Oper}(w W:Wo)(B:Nat)(hgd:o.guard=none)(s x:Operand)(ho:o.op=.call {callee:=.builtin .append,args:=#[s,x],argTypes:=#[37,37]})
 {L:List ((Nat×Nat)×Qo)}{b c:Nat}(hs:a.eval s=v)(hx:a.eval x=.slice (sD b off) L.length c)(hown:za6 59 6 zaL w B v [])(hB:B<=w.heap.size)(hb:Below B W w)
  (hU:EU 6 zaL w (sD b off) L)(hl:1<=L.length/\L.length<=1000000)
  (hK:∀a2 c2 w',L.length<=c2->EU 6 zaL w' a2 L->(∀p,a2=some p->B<=p.block)->Below B W w'->wpList Tryz.prog ops Q rest (a.put o.dst (.slice a2 L.length c2)) w') :
  wpList Tryz.prog ops Q (o :: rest) a w:=by
 obtain⟨i0,hi,hz0,hz1,hz2⟩:=info_parts Tryz.info59;obtain⟨els0,g1,g2,g3,g4,g5⟩:=hown;have g0:els0=[]:=List.eq_nil_of_length_eq_zero g1;subst g0;obtain⟨els,k1,k2,k3,k4⟩:=hU.els;have hfl:=flat_lenN els k2;rw[k1]at hfl;have hcn:∀(j:Nat)(u:Vl),els.flatten[j]?=some u->w.cell? ((⟨b,off,none⟩:Addr).add j)=some u:=by
  intro j u hj;obtain⟨c',hc',hu⟩:=flat_backN dM els k2 j u hj;have ha:(⟨b,off,none⟩:Addr).add j=⟨b,off+j,none⟩:=by
   unfold Addr.add;split
   ·subst j;rfl
   ·simp
  have:=k3 _ c' hc' _ u hu;rw[show j / 6*6+j % 6=j by omega]at this;rw[ha];exact this
 have hall:∀u∈els.flatten,u.oneCell'=true/\zaM u:=by
  intro u hu;obtain⟨c',hc',huc⟩:=List.mem_flatten.1 hu;obtain⟨i,hi,rfl⟩:=List.mem_iff_getElem.1 hc';have hL:i<L.length:=by rw[<-k1];exact hi
  obtain⟨J1,ao1,n1,Y1,K1,ap1,m1,Z1,e,_⟩:=k4 i _ _ (gE hi) (gE hL);rw[e]at huc;exact⟨zoN u huc,zlW u huc⟩
 obtain⟨v',w',hr1,h3,h4,h5⟩:=zbD (P:=Tryz.prog) w B 37 o.type 59 i0 (.agg #[.int .u16 0,.int .u16 0,bF_,nS_,bF_,nS_]) Tryz.slice37 hi hz0 (by rw[hz1];rfl) (by rw[hz1];decide) v 0 [] (by rw[hz1];exact g3) g4 ⟨b,off,none⟩ L.length c els.flatten (by rw[hz1];exact hfl) hcn (λu hu=>(hall u hu).1) (by unfold maxLen;omega) (by rw[hz2];omega) hB oM zlW (λu hu=>(hall u hu).2);have hO:za6 59 6 zaL w' B v' L:=⟨els,k1,k2,by rw[hz1,Nat.zero_add,List.nil_append]at h3;exact h3,h5,λi c' a' hc' ha'=>zag _ _ _ _ _ (k4 i c' a' hc' ha') (.of_grown h4) (λg hg=>g4 g hg)⟩;obtain⟨a2,c2,rfl,hc2,hu2⟩:=hO.read;exact wpList_plain hgd λK hK'=>zat s x ho hs hx hr1 (hK' _ _ (hK a2 c2 w' hc2 hu2 (λp e=>(hO.lt p.block (by rw[e];rfl)).1) (hb.grown h4 hB λg hg=>(World.ownsRow.lt g3 g hg).1)))
theorem zjs(v:Vl)(w:Wo)(h:zmb w v) :
  CP 21 #[v,.int .i64 30] w λe w'=>(∃b,e=.returned (.bool b)/\(b=true->∃o,QV w' v o/\zlG o))/\BH w w':=by
 have hbw:=Below.refl w.heap.size w;have h0:=h;obtain⟨x1,x2,l1,l2,a1,a2,c1,c2,rfl,k1,k2,u1,u2⟩:=h;have HQ:Hid (∀W,BH w W->l1.length<=30->l2.length<=30->∃o,QV W (.agg #[.bool x1,.slice a1 l1.length c1,.bool x2,.slice a2 l2.length c2]) o/\zlG o):=hii λW hb g1 g2=>zmb.few k1 k2 (u1.mono hb) (u2.mono hb) g1 g2
 have HF1:=hii (λw=>zjR x1 l1 30 a1 c1 w);have HF2:=hii (λw=>zjR x2 l2 30 a2 c2 w);obtain⟨b1,hb1⟩:∃b,decide ((l1.length:Int)<=30)=b:=⟨_,rfl⟩;obtain⟨b2,hb2⟩:∃b,decide ((l2.length:Int)<=30)=b:=⟨_,rfl⟩;rw[hb1]at HF1;rw[hb2]at HF2;have HB1:Hid (b1=true->l1.length<=30):=hii λe=>by have:=of_decide_eq_true (hb1.trans e);omega
 have HB2:Hid (b2=true->l2.length<=30):=hii λe=>by have:=of_decide_eq_true (hb2.trans e);omega
 clear hb1 hb2 u1 u2 h0 k1 k2;go_enter func21,ntmps21;go_upto_region 1 with fail;obtain⟨w1,g2,hw9,hg9,hb,r2⟩:=bxr w [.bool x1,.slice a1 l1.length c1,.bool x2,.slice a2 l2.length c2] 32;rw[<-hw9,<-hg9];have Hg2:Hid (w.heap.size<=g2):=hii (by have:=hbw.size;omega);clear hw9 hg9;have hbw:=bu hbw hb;clear hb;obtain⟨d0,d1,d2,d3⟩:=r2.n4;go_wp2_with fail;go_fit (HF1.o w1);rintro e w2⟨rfl,hb⟩;have r2:=r2.below hb;have hbw:=bu hbw hb;clear hb;clear d0 d1 d2 d3 HF1;obtain⟨d0,d1,d2,d3⟩:=r2.n4
 cases b1 with
 |false=>
  go_wp2;go_ret;exact⟨⟨false,rfl,λh=>nomatch h⟩,hbw⟩
 |true=>
  go_wp2_with fail;go_fit (HF2.o w2);rintro e w3⟨rfl,hb⟩;have hbw:=bu hbw hb;clear hb d0 d1 d2 d3 HF2;go_wp2;go_ret;exact⟨⟨b2,rfl,λh=>HQ.o _ hbw (HB1.o (by first|rfl|trivial)) (HB2.o h)⟩,hbw⟩
theorem ziJ(L:List ((Nat×Nat)×Qo))(aa:OA)(ca:Nat)(w:Wo)(hl:1<=L.length/\L.length<=1000000)(ua:EU 6 zaL w aa L) :
  CP 23 #[.slice aa L.length ca] w λe w'=>(∃a2 c2,e=.returned (.slice a2 L.length c2)/\(∀p,a2=some p->w.heap.size<=p.block)/\EU 6 zaL w' a2 L)/\BH w w':=by
 obtain⟨b,off,_,ea,_,_,_⟩:=ua 0 _ (gE oM);subst ea;have hn:=λw:Wo=>Lib.run_eql_slice_nil (P:=Tryz.prog) w 37 59 (sD b off) L.length ca 0 0 Tryz.slice37
 simp only[Option.isNone_some]at hn;have hown:za6 59 6 zaL (w.alloc (.cells #[] 59)) w.heap.size (.slice (some ⟨w.heap.size,0,none⟩) 0 0) ([]:List ((Nat×Nat)×Qo)):=⟨[],rfl,λc h=>by simp at h,World.ownsRow_made w #[] 0 nl (Nat.zero_le _) sM,λg hg cur t fr hc u hu=>by
  simp only[Value.ownBlock,Option.some.injEq]at hg;subst hg;rw[heap_alloc_new]at hc
  cases hc
  simp at hu,λi c a h=>by simp at h⟩
 have hba:=bA w (.cells #[] 59);have hU:=ua.mono zag hba;have hsz:=hba.size;go_enter func23,ntmps23;go_wp2_with (at_builtin;go_loud (refine znc _ w w.heap.size rfl (.tmp 5) (.tmp 6) rfl rfl rfl hown hsz hba hU hl ?_);intro a2 c2 w1 hc2 hu2 hp2 hb2);go_ret;exact⟨⟨a2,c2,rfl,hp2,hu2⟩,hb2⟩
theorem zof(R S:LN)(f:Rat)(cap:List Rat)(m:Nat)(HW:Hid (WkM R S f cap m))(L:List ((Nat×Nat)×Qo))(aR aS aC aL:OA)(cR cS cC cL:Nat){K1:Bool}(w:Wo)(hL:L.length<=1000)(hcR:R.length<=cR)(hcS:S.length<=cS)(uR:zaF w aR R)(uS:zaF w aS S)(hf:zad w (qA J1 ao1 n1 Y1 K1 ap1 m1 Z1) f)(uC:UQ w aC (cap.map some))(uL:EU 6 zaL w aL L)(hE:Env w)
  (Hsz:Hid (L.any (zaX R S)=false->zav (L.map (·.2))=0->∃sh,L=shQ sh/\OfS f cap sh)) :
  CP 22 #[.slice aR R.length cR,.slice aS S.length cS,.agg #[.bool J1,.slice ao1 n1 Y1,.bool K1,.slice ap1 m1 Z1],.slice aC cap.length cC,.slice aL L.length cL] w λe w'=>OfR R S f cap L w' e/\BH w w':=by
 have hbw:=Below.refl w.heap.size w;have hRl:=HW.o.fR.len.2;have hSl:=HW.o.fS.len.2;have hm:=HW.o.hm;have h16:=hii (And.intro (HW.o.fR.s16 oM) (HW.o.fS.s16 oM));have hc:=hii HW.o.lc;have hpc:=hii HW.o.pc;go_enter func22,ntmps22;go_upto_region 1 with fail;obtain⟨wx,hwx,rf,r4,hb⟩:=zaH w 32 32 [.bool J1,.slice ao1 n1 Y1,.bool K1,.slice ap1 m1 Z1] [bF_,nS_,bF_,nS_];simp only[List.toArray]at hwx;rw[<-hwx];clear hwx;obtain⟨wA,rfl⟩:=exi wx;obtain⟨g4,hg4⟩:=exi (w.heap.size+1);have Hg4:Hid (w.heap.size<=g4):=hii oM;rw[<-hg4]at r4|-;clear hg4;obtain⟨gf,hgf⟩:=exi (w.heap.size);have Hgf:Hid (w.heap.size<=gf):=hii oM;rw[<-hgf]at rf|-;clear hgf;have uR:=uR.mono hb;have uS:=uS.mono hb;have hf:=hf.mono hb;have uC:=uC.mono hb;have hE:=hE.mono hb;have uL:=uL.mono zag hb;have hbw:=bu hbw hb;clear hb;obtain⟨k0,k1,k2,k3⟩:=rf.n4;go_wp2_with fail;go_fit (zco R S f cap m HW aR aS aC cR cS cC _ wA hcR hcS uR uS hf uC hE);rintro e wB⟨⟨g,rfl,hg,hW⟩,hb⟩;have hE:=hE.mono hb;have r4:=r4.below hb;have uL:=uL.mono zag hb;have hbw:=bu hbw hb;clear hb;clear k0 k1 k2 k3 uR uS uC hf rf;have HO:=zn9 R S f cap g m L aL cL wB oM oM hL hc oM h16 hpc hW uL hE Hsz;go_wp2_with fail;(with_reducible refine HO.mono ?_);rintro e wC⟨hOR,hb⟩;have r4:=r4.below hb;have hbw:=bu hbw hb;clear hb;clear HO uL hW hE;obtain⟨p0,p1,p2,p3⟩:=r4.n4;have q0:=r4.free 0;have q1:=r4.free 1;have q2:=r4.free 2;have q3:=r4.free 3
 by_cases hbad:L.any (zaX R S)=true\/zav (L.map (·.2))≠0
 ·obtain⟨k,hk,HOR⟩:∃k:Int,e=.returned (.tuple #[.agg #[bF_,nS_,bF_,nS_],.int .i64 k])/\Hid (∀w',OfR R S f cap L w' (.returned (.tuple #[.agg #[bF_,nS_,bF_,nS_],.int .i64 k]))):=by
   rcases hOR with⟨h1,h2⟩|⟨h1,h2,h3⟩|⟨h1,h2,h3⟩
   ·exact⟨1,h2,hii λw'=>.inl ⟨h1,rfl⟩⟩
   ·exact⟨_,h3,hii λw'=>.inr (.inl ⟨h1,h2,rfl⟩)⟩
   ·rcases hbad with hbad|hbad
    ·rw[h1]at hbad;cases hbad
    ·exact absurd h2 hbad
  subst hk;clear hOR hbad;have R9:=(((r4.set 0 bF_).set 1 nS_).set 2 bF_).set 3 nS_;have R9:=hii R9;have HB9:=hii hbw;go_wp2;obtain⟨e0,e1,e2,e3⟩:=Row.n4 R9.o;refine bodyPost_ret (v:=.tuple #[.agg #[bF_,nS_,bF_,nS_],.int .i64 k]) (by simp[results,Tryz.results22,go_sem,e0,e1,e2,e3]) rfl ⟨HOR.o _,?_⟩;exact dU
 ·obtain⟨h1,h2⟩:L.any (zaX R S)=false/\zav (L.map (·.2))=0:=by
   rw[not_or]at hbad;exact⟨by simpa using hbad.1,by simpa using hbad.2⟩
  obtain⟨sh,hsh,hG⟩:∃sh,L=shQ sh/\zb3 wC (mxS f cap sh cap.length) e:=by
   rcases hOR with⟨h,_⟩|⟨_,h,_⟩|⟨_,_,h⟩
   ·rw[h1]at h;cases h
   ·exact absurd h2 h
   ·exact h
  have HX:=hii (And.intro h1 (And.intro h2 hsh));obtain⟨J3,ao3,n3,Y3,K3,ap3,m3,Z3,rfl,hV⟩:=hG.rat;clear hOR hbad h1 h2 hsh hG;have HP4:=hii (zfy r4 zhK (.bool J3) (.slice ao3 n3 Y3) (.bool K3) (.slice ap3 m3 Z3) hV);have Hbw:=hii hbw;clear r4 hV hbw;go_wp2;obtain⟨R1,R2,R3⟩:=HP4.o;obtain⟨e0,e1,e2,e3⟩:=Row.n4 R1;refine bodyPost_ret (v:=.tuple #[.agg #[.bool J3,.slice ao3 n3 Y3,.bool K3,.slice ap3 m3 Z3],.int .i64 0]) (by simp[results,Tryz.results22,go_sem,e0,e1,e2,e3]) rfl ⟨.inr (.inr ⟨HX.o.1,HX.o.2.1,sh,HX.o.2.2,zb3.mk R3⟩),?_⟩;exact eF
end Go.Proofs.YtfgffkmddanjjaaGreatDoor
