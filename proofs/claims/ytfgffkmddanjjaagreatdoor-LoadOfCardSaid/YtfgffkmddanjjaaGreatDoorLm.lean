/-
  load: balances in memory.
-/
import Derived.Test.YtfgffkmddanjjaaGreatDoorLh
import Derived.Test.YtfgffkmddanjjaaGreatDoorLg
import Derived.Test.YtfgffkmddanjjaaGreatDoorSj
set_option linter.unusedVariables false
set_option linter.unusedSimpArgs false
set_option maxRecDepth 100000
set_option maxHeartbeats 25600000
namespace Go.Proofs.YtfgffkmddanjjaaGreatDoor
open _root_.Go.Proofs.Tryz
open Go.RowKit
variable {J1:Bool} {a:Int} {sh:List ((Nat × Nat) × Rat)} {pr:List Qo} {Y1 Z1 c' g k m1 n' n1 n2 n8:Nat} {a' ao ao1 ap1 d e f:OA} {ld:Rat} {v vQ vS x0 x1 x2 x3:Vl} {W W' w':Wo}
def zaD(w:Wo)(c:List Vl)(s:(Nat×Nat)×Rat):Prop:=∃J1 ao1 n1 Y1 K1 ap1 m1 Z1,c=[.int .u16 (s.1.1:Nat),.int .u16 (s.1.2:Nat),.bool J1,.slice ao1 n1 Y1,.bool K1,.slice ap1 m1 Z1]/\zad w (qA J1 ao1 n1 Y1 K1 ap1 m1 Z1) s.2
theorem zao:zdh zaD:=λG w w' c s h hk hn=>by
 obtain⟨J1,ao1,n1,Y1,K1,ap1,m1,Z1,e,h⟩:=h;exact⟨J1,ao1,n1,Y1,K1,ap1,m1,Z1,e,h.keptU hk hn⟩
theorem Tryz.info59:(Tryz.prog.info? 59).map (λi=>(i.zero,i.size,i.bytes))=some (some (.agg #[.int .u16 0,.int .u16 0,bF_,nS_,bF_,nS_]),6,72):=by kernel_rfl
theorem Tryz.slice37:Tryz.prog.underlying 37=some (.slice 59):=by kernel_rfl
theorem zlW{b:Int}{K1:Bool}:∀u∈[Value.int .u16 a,.int .u16 b,.bool J1,.slice ao1 n1 Y1,.bool K1,.slice ap1 m1 Z1],zaM u:=by
 intro u hu;simp at hu;rcases hu with rfl|rfl|rfl|rfl|rfl|rfl<;>(intro z e;cases e)
theorem zoN{b:Int}{K1:Bool}:∀u∈[Value.int .u16 a,.int .u16 b,.bool J1,.slice ao1 n1 Y1,.bool K1,.slice ap1 m1 Z1],u.oneCell'=true:=by
 intro u hu;simp at hu;rcases hu with rfl|rfl|rfl|rfl|rfl|rfl<;>rfl
def zkJ(w:Wo)(v:Vl)(ld:Rat)(sh:List ((Nat×Nat)×Rat))(Q:List Rat):Prop:=∃J1 ao1 n1 Y1 K1 ap1 m1 Z1 aS cS aQ cQ,v=.agg #[.bool J1,.slice ao1 n1 Y1,.bool K1,.slice ap1 m1 Z1,.slice aS sh.length cS,.slice aQ Q.length cQ]/\zad w (qA J1 ao1 n1 Y1 K1 ap1 m1 Z1) ld/\EU 6 zaD w aS sh/\UQ w aQ (Q.map some)
theorem zkJ.mono{w:Wo}{Q:List Rat}(h:zkJ w v ld sh Q)(hb:BH w w'):zkJ w' v ld sh Q:=by
 obtain⟨J1,ao1,n1,Y1,K1,ap1,m1,Z1,aS,cS,aQ,cQ,e,h1,h2,h3⟩:=h;exact⟨J1,ao1,n1,Y1,K1,ap1,m1,Z1,aS,cS,aQ,cQ,e,h1.mono hb,h2.mono zao hb,h3.mono hb⟩
def BB(W:Wo)(g B:Nat)(x0 x1 x2 x3 vS vQ:Vl)(sh:List ((Nat×Nat)×Rat))(pr:List Qo):Prop :=
 Row W g 39 [x0,x1,x2,x3,vS,vQ]/\za6 59 6 zaD W B vS sh/\zaI W B vQ pr/\Sep vS vQ/\g<B
theorem BB.mono{B:Nat}(h:BB W g B x0 x1 x2 x3 vS vQ sh pr)(hb:BH W W'):BB W' g B x0 x1 x2 x3 vS vQ sh pr :=
 ⟨h.1.below hb,h.2.1.mono zao hb,h.2.2.1.mono hb,h.2.2.2⟩
theorem BB.putS{B:Nat}{sh':List ((Nat×Nat)×Rat)}(h:BB W g B x0 x1 x2 x3 vS vQ sh pr)(hO:za6 59 6 zaD W' B (.slice a' n' c') sh')(hk:zah (λb=>vS.ownBlock=some b) W W')
  (hn:∀b,(Value.slice a' n' c').ownBlock=some b->vS.ownBlock=some b\/W.heap.size<=b)(hx:∀u∈[x0,x1,x2,x3,vS,vQ],zaJ u):Row W' g 39 [x0,x1,x2,x3,vS,vQ]/\BB (W'.setCell (aD_ g 4) (.slice a' n' c')) g B x0 x1 x2 x3 (.slice a' n' c') vQ sh' pr:=by
 obtain⟨h1,h2,h3,h4,h5⟩:=h;have hg:¬vS.ownBlock=some g:=λe=>by have:=(h2.lt g e).1;omega
 have r:=h1.mono hk hg;have hk2:zah (λb=>b=g) W' (W'.setCell (aD_ g 4) (.slice a' n' c')):=(zah.refl W':zah (λb=>b=g) W' W').setCell (p:=⟨g,4,none⟩) rfl _;have hnG:NoG (λb=>b=g) W':=by
  exact eI
 have hO3:zaI W' B vQ pr:=h3.keptU hk h2.noU (λb e1 e2=>h4 b e2 e1);refine⟨r,r.set 4 _,hO.kept zao hk2 hnG.u (λb e1 e2=>by have:=(hO.lt b e1).1;omega),hO3.kept hk2 hnG (λb e1 e2=>by have:=(hO3.lt b e1).1;omega),λb e1 e2=>?_,h5⟩;rcases hn b e1 with e|e
 ·exact h4 b e e2
 ·have:=(h3.lt b e2).2;omega
theorem BB.putQ{B:Nat}{pr':List Qo}(h:BB W g B x0 x1 x2 x3 vS vQ sh pr)(hO:zaI W' B (.slice a' n' c') pr')(gr:Grw W W' vQ (.slice a' n' c'))(hx:∀u∈[x0,x1,x2,x3,vS,vQ],zaJ u) :
  Row W' g 39 [x0,x1,x2,x3,vS,vQ]/\BB (W'.setCell (aD_ g 5) (.slice a' n' c')) g B x0 x1 x2 x3 vS (.slice a' n' c') sh pr':=by
 obtain⟨h1,h2,h3,h4,h5⟩:=h;have hg:¬vQ.ownBlock=some g:=λe=>by have:=(h3.lt g e).1;omega
 have r:=h1.mono gr.kept hg;have hk2:zah (λb=>b=g) W' (W'.setCell (aD_ g 5) (.slice a' n' c')):=(zah.refl W':zah (λb=>b=g) W' W').setCell (p:=⟨g,5,none⟩) rfl _;have hnG:NoG (λb=>b=g) W':=by
  exact eI
 have hO2:za6 59 6 zaD W' B vS sh:=h2.kept zao gr.kept gr.noG.u (λb e1 e2=>h4 b e1 e2);refine⟨r,r.set 5 _,hO2.kept zao hk2 hnG.u (λb e1 e2=>by have:=(hO2.lt b e1).1;omega),hO.kept hk2 hnG (λb e1 e2=>by have:=(hO.lt b e1).1;omega),λb e1 e2=>?_,h5⟩;exact(h4.grw (λb e=>(h2.lt b e).2) gr) b e1 e2
section
variable {ops : Array Oper} {rest : List Oper} {o : Oper} {a : Act} {Q : Exit → Act → Wo → Prop}
theorem zkf(W X:Wo)(B:Nat)(hgd:o.guard=none)(s x:Operand)(ho:o.op=.call {callee:=.builtin .append,args:=#[s,x],argTypes:=#[33,33]})
  {v:Vl}{l:List Qo}{r:Rat}{J1:Bool}{ao1:OA}{n1 Y1:Nat}{K1:Bool}{ap1:OA}{m1 Z1:Nat}(hs:a.eval s=v)(hx:a.eval x=.slice (some ⟨W.heap.size,0,none⟩) 1 1)(hown:zaI W B v l)(hB:B<=W.heap.size)(hb:Below B X W)(hr:zad W (qA J1 ao1 n1 Y1 K1 ap1 m1 Z1) r)(hl:l.length<=100000)
  (hK:∀a' n' c' w' W1,BH W W1->zaI w' B (.slice a' n' c') (l++[some r])->Below B X w'->Grw W1 w' v (.slice a' n' c')->wpList Tryz.prog ops Q rest (a.put o.dst (.slice a' n' c')) w') :
  wpList Tryz.prog ops Q (o :: rest) a (W.alloc (.cells #[.bool J1,.slice ao1 n1 Y1,.bool K1,.slice ap1 m1 Z1] 32)):=by
 have hba:=bA W (.cells #[.bool J1,.slice ao1 n1 Y1,.bool K1,.slice ap1 m1 Z1] 32);obtain⟨v',w',h1,h2,h3,h4⟩:=zcf (W.alloc (.cells #[.bool J1,.slice ao1 n1 Y1,.bool K1,.slice ap1 m1 Z1] 32)) X o.type B v l (some r) _ 1 (hown.mono hba) (Nat.le_trans hB hba.size) (hb.alloc hB _) (zfD hr) hl;obtain⟨a',c',rfl,_⟩:=h2.read;refine wpList_plain hgd λK hK'=>?_
 exact zat s x ho hs hx h1 (hK' _ _ (hK _ _ _ w' _ hba h2 h3 h4))
end
theorem zkR{l:List (Nat×Nat)}{P:List Rat}{q:Nat×Nat}{x:Rat}(h1:l[k]?=some q)(h2:P[k]?=some x):shs (l.take (k+1)) (P.take (k+1))=shs (l.take k) (P.take k)++(if 0<x then [(q,x)]else []):=by
 rw[zaw h1,zaw h2];refine zhs _ _ _ _ ?_;have:=zdU h1;have:=zdU h2;simp only[List.length_take];omega
theorem zgC:∀(l:List (Nat×Nat))(P:List Rat),(shs l P).length<=l.length
 |[],P=>by cases P<;>simp[shs]
 |q :: l,[]=>by simp[shs]
 |q :: l,x :: P=>by
  have:=zgC l P;simp only[shs]
  split<;>simp<;>omega
def zpC(l:List (Nat×Nat))(f:Rat)(cap:List Rat)(m n M:Nat)(w':Wo)(e:Ending):Prop:=∃v ld Ps Qs,e=.returned (.tuple #[v,.int .i64 0])/\zkJ w' v ld (shs l Ps) Qs/\Bal l f cap m n M ld Ps Qs
theorem zoO{a c:Bool}{b:OA}{n3 n4 n5 n6 n7:Nat}:∀u∈[Value.bool a,.slice b n1 n2,.bool c,.slice d n3 n4,.slice e n5 n6,.slice f n7 n8],zaJ u:=by
 intro u hu;simp at hu;rcases hu with rfl|rfl|rfl|rfl|rfl|rfl<;>(intro k z e;cases e)
theorem noI6'{a c:Bool}{b:OA}{n3 n4 n5 n6 n7:Nat}:∀u∈[Value.bool a,.slice b n1 n2,.bool c,.slice d n3 n4,.slice e n5 n6,.slice f n7 n8],zaJ u:=zoO
theorem zff{B:Nat}{w:Wo}(h:Below B w w'):zah (λb=>b=g\/B<=b) w w':=⟨h.os,h.tape,h.output,h.size,λk _ hn=>h.block k (Nat.lt_of_not_le λe=>hn (.inr e))⟩
theorem zm9(w:Wo){K1:Bool} :
  BB (w.alloc (.cells #[.bool J1,.slice ao1 n1 Y1,.bool K1,.slice ap1 m1 Z1,nS_,nS_] 39)) w.heap.size (w.heap.size+1) (.bool J1) (.slice ao1 n1 Y1) (.bool K1) (.slice ap1 m1 Z1) nS_ nS_ [] [] :=
 ⟨heap_alloc_new _ _,za6.nil _ _,zaI.nil _ _,zce _,Nat.lt_succ_self _⟩
theorem zm7{g8 B9:Nat}{v0 v1 v2 v3 v4 v5:Vl}{K1:Bool}{aS aQ:OA}{nS cS nQ cQ:Nat}{Qs:List Rat}(r8:Row W g8 39 [v0,v1,v2,v3,v4,v5])(hx:∀u∈[v0,v1,v2,v3,v4,v5],zaJ u)
  (h:BB W g B9 (.bool J1) (.slice ao1 n1 Y1) (.bool K1) (.slice ap1 m1 Z1) (.slice aS nS cS) (.slice aQ nQ cQ) sh (Qs.map some))(hV:zad W (qA J1 ao1 n1 Y1 K1 ap1 m1 Z1) ld)(hg:g8<B9) :
  Row ((((((W.setCell (aD_ g8 0) (.bool J1)).setCell (aD_ g8 1) (.slice ao1 n1 Y1)).setCell (aD_ g8 2) (.bool K1)).setCell (aD_ g8 3) (.slice ap1 m1 Z1)).setCell (aD_ g8 4) (.slice aS nS cS)).setCell (aD_ g8 5) (.slice aQ nQ cQ)) g8 39 [.bool J1,.slice ao1 n1 Y1,.bool K1,.slice ap1 m1 Z1,.slice aS nS cS,.slice aQ nQ cQ] /\
  zkJ ((((((W.setCell (aD_ g8 0) (.bool J1)).setCell (aD_ g8 1) (.slice ao1 n1 Y1)).setCell (aD_ g8 2) (.bool K1)).setCell (aD_ g8 3) (.slice ap1 m1 Z1)).setCell (aD_ g8 4) (.slice aS nS cS)).setCell (aD_ g8 5) (.slice aQ nQ cQ)) (.agg #[.bool J1,.slice ao1 n1 Y1,.bool K1,.slice ap1 m1 Z1,.slice aS nS cS,.slice aQ nQ cQ]) ld sh Qs /\
  ∀B X,B<=g8->Below B X W->Below B X ((((((W.setCell (aD_ g8 0) (.bool J1)).setCell (aD_ g8 1) (.slice ao1 n1 Y1)).setCell (aD_ g8 2) (.bool K1)).setCell (aD_ g8 3) (.slice ap1 m1 Z1)).setCell (aD_ g8 4) (.slice aS nS cS)).setCell (aD_ g8 5) (.slice aQ nQ cQ)):=by
 have hk:zah (λb=>b=g8) W ((((((W.setCell (aD_ g8 0) (.bool J1)).setCell (aD_ g8 1) (.slice ao1 n1 Y1)).setCell (aD_ g8 2) (.bool K1)).setCell (aD_ g8 3) (.slice ap1 m1 Z1)).setCell (aD_ g8 4) (.slice aS nS cS)).setCell (aD_ g8 5) (.slice aQ nQ cQ)) :=
  ((((((zah.refl W:zah (λb=>b=g8) W W).setCell (p:=⟨g8,0,none⟩) rfl _).setCell (p:=⟨g8,1,none⟩) rfl _).setCell (p:=⟨g8,2,none⟩) rfl _).setCell (p:=⟨g8,3,none⟩) rfl _).setCell (p:=⟨g8,4,none⟩) rfl _).setCell (p:=⟨g8,5,none⟩) rfl _
 have hnG:NoG (λb=>b=g8) W:=by
  intro b hb cur t fr hc;subst hb;have:=r8.symm.trans hc;exact dE
 obtain⟨h1,h2,h3,h4,h5⟩:=h;refine⟨(((((r8.set 0 (.bool J1)).set 1 (.slice ao1 n1 Y1)).set 2 (.bool K1)).set 3 (.slice ap1 m1 Z1)).set 4 (.slice aS nS cS)).set 5 (.slice aQ nQ cQ),?_,λB X hB hb=>hb.trans (hk.below (λb e=>by rw[e];exact hB) (Nat.le_trans hB (Nat.le_of_lt r8.lt)))⟩;have h2':=h2.kept zao hk hnG.u (λb e1 e2=>by have:=(h2.lt b e1).1;omega);have h3':=h3.kept hk hnG (λb e1 e2=>by have:=(h3.lt b e1).1;omega);obtain⟨a5,c5,e5,_,hE5⟩:=h2'.read;obtain⟨a6,c6,e6,hU6⟩:=h3'.read;simp only[Value.slice.injEq]at e5 e6;obtain⟨rfl,rfl,rfl⟩:=e5;obtain⟨rfl,rfl,rfl⟩:=e6;refine⟨J1,ao1,n1,Y1,K1,ap1,m1,Z1,aS,cS,aQ,cQ,by rw[List.length_map],hV.keptU hk hnG.u,hE5,hU6⟩
theorem zon{B:Nat}{X:Wo}(hg:B<=g)(hb:Below B X W)(y0 y1 y2 y3 y4 y5:Vl):Below B X ((((((W.setCell (aD_ g 0) y0).setCell (aD_ g 1) y1).setCell (aD_ g 2) y2).setCell (aD_ g 3) y3).setCell (aD_ g 4) y4).setCell (aD_ g 5) y5) :=
 (((((hb.setCell (p:=⟨g,_,none⟩) hg _).setCell (p:=⟨g,_,none⟩) hg _).setCell (p:=⟨g,_,none⟩) hg _).setCell (p:=⟨g,_,none⟩) hg _).setCell (p:=⟨g,_,none⟩) hg _).setCell (p:=⟨g,_,none⟩) hg _
theorem zeM(R S:LN)(f:Rat)(cap:List Rat)(m:Nat)(HW:Hid (WkM R S f cap m))(aR aS aC:OA)(cR cS cC:Nat)(vf:Vl)(w:Wo)(hcR:R.length<=cR)(hcS:S.length<=cS)(uR:zaF w aR R)(uS:zaF w aS S)(hf:zad w vf f)(uC:UQ w aC (cap.map some))(hE:Env w) :
  CP 26 #[.slice aR R.length cR,.slice aS S.length cS,vf,.slice aC cap.length cC] w λe w'=>zpC (prs R S) f cap m (prs R S).length (szE 96 m) w' e/\BH w w':=by
 have hbw:=Below.refl w.heap.size w;obtain⟨J1,ao1,n1,Y1,K1,ap1,m1,Z1,rfl⟩:=hf.parts;have hm:=HW.o.hm;have hm8:1<=m/\m<=8:=⟨hm.1,oM⟩;have HLc:Hid (cap.length=m):=hii HW.o.lc;have HWk:=hii HW.o.wk;rw[<-zbX]at HWk;have hR4:=HW.o.fR.len;have hS4:=HW.o.fS.len;have hn9:1<=(prs R S).length/\(prs R S).length<=9:=⟨HWk.o.hn.1,by rw[zbX];exact HW.o.n9⟩;have HPg:=hii (λw u1 u2 u3 u4 u5=>ziN R S f cap m HW aR aS aC cR cS cC (.agg #[.bool J1,.slice ao1 n1 Y1,.bool K1,.slice ap1 m1 Z1]) w hcR hcS u1 u2 u3 u4 u5);have HNW:=hii (λw u1 u2 u3 u4 u5=>zco R S f cap m HW aR aS aC cR cS cC (.agg #[.bool J1,.slice ao1 n1 Y1,.bool K1,.slice ap1 m1 Z1]) w hcR hcS u1 u2 u3 u4 u5);have HPR:=hii (λg w hW=>zdy g R S f cap w oM oM hW);obtain⟨l,hl⟩:∃l,prs R S=l:=⟨_,rfl⟩;rw[hl]at hn9 HPg HPR HWk|-;rw[HLc.o]at HNW HPg|-;clear hl hR4 hS4;obtain⟨n,hn⟩:∃n,l.length=n:=⟨_,rfl⟩;have Hn:=hii hn;rw[hn]at hn9 HPg HWk|-;clear hn;obtain⟨A,hA⟩:∃A,wA f l m=A:=⟨_,rfl⟩;have HA:=hii hA;rw[hA]at HPg;clear hA;obtain⟨M,hM⟩:∃M,szE 96 m=M:=⟨_,rfl⟩;have HMK:Hid (M<=KK):=hii (by rw[<-hM];exact HWk.o.wq.bigE);have HM:=hii hM;rw[hM];clear hM;go_enter func26,ntmps26;go_upto_region 1 with fail;obtain⟨wx,hwx,r1,r2,hb⟩:=zaH w 32 39 [.bool J1,.slice ao1 n1 Y1,.bool K1,.slice ap1 m1 Z1] [bF_,nS_,bF_,nS_,nS_,nS_];simp only[List.toArray]at hwx;rw[<-hwx];clear hwx;obtain⟨w1,rfl⟩:=exi wx;obtain⟨g2,hg2⟩:=exi (w.heap.size+1);have Hg2:Hid (w.heap.size<=g2):=hii oM;rw[<-hg2]at r2|-;clear hg2;obtain⟨g1,hg1⟩:=exi (w.heap.size);have Hg1:Hid (w.heap.size<=g1):=hii oM;rw[<-hg1]at r1|-;clear hg1;have hf:=hf.mono hb;have uR:=uR.mono hb;have uS:=uS.mono hb;have uC:=uC.mono hb;have hE:=hE.mono hb;have hbw:=bu hbw hb;clear hb;obtain⟨c0,c1,c2,c3⟩:=r1.n4;go_wp2_with fail;go_fit (HPg.o w1 uR uS hf uC hE);rintro e w2⟨⟨aA,cA,aB,cB,aD,cD,rfl,uA,uB,uD⟩,hb⟩;have hf:=hf.mono hb;have uR:=uR.mono hb;have uS:=uS.mono hb;have uC:=uC.mono hb;have hE:=hE.mono hb;have r1:=r1.below hb;have r2:=r2.below hb;have hbw:=bu hbw hb;clear hb;clear c0 c1 c2 c3 HPg;go_upto_region 2 with fail;obtain⟨w3,g10,hw9,hg9,hb,r10⟩:=bxr w2 [.slice aA m cA,.slice aB m cB,.slice aD n cD] 105;rw[<-hw9,<-hg9];have Hg10:Hid (w.heap.size<=g10):=hii (by have:=hbw.size;omega);clear hw9 hg9;have uA:=uA.mono hb;have uB:=uB.mono hb;have uD:=uD.mono hb;have hf:=hf.mono hb;have uR:=uR.mono hb;have uS:=uS.mono hb;have uC:=uC.mono hb;have hE:=hE.mono hb;have r1:=r1.below hb;have r2:=r2.below hb;have hbw:=bu hbw hb;clear hb;have hSv:CP 66 #[.agg #[.slice aA m cA,.slice aB m cB,.slice aD n cD]] w3 λe w'=>zpz A cap (List.replicate n 1) m n w' e/\BH w3 w':=by
  rw[<-HA.o]at uA|-;exact zkP _ _ _ m n (hii HWk.o.wq.err) (hii HWk.o.wq.sz) (hii ⟨HWk.o.wq.lA,HWk.o.wq.rA⟩) (hii ⟨HLc.o,HWk.o.wq.pb⟩) (hii sM) ⟨hm.1,oM⟩ ⟨hn9.1,oM⟩ aA aB aD cA cB cD w3 uA uB (by rw[List.map_replicate];exact uD) hE
 obtain⟨c0,c1,c2⟩:=r10.n3;go_wp2_with fail;(with_reducible refine hSv.mono ?_);rintro e w4⟨hSol,hb⟩;clear hSv c0 c1 c2 uA uB uD;have hf:=hf.mono hb;have uR:=uR.mono hb;have uS:=uS.mono hb;have uC:=uC.mono hb;have hE:=hE.mono hb;have r1:=r1.below hb;have r2:=r2.below hb;have hbw:=bu hbw hb;clear hb;rw[<-HA.o]at hSol;obtain⟨val,X,Y,vo,rfl,hO,hX⟩|⟨Z,rfl,hZ⟩:=hSol
 case inr=>exact(HWk.o.nounb hZ).elim
 have hOW:=HWk.o.opt hX;rw[HM.o]at hOW;have hBal:=hOW.bal;obtain⟨D9,hD0,hDM,⟨hD1,hD2,hD3⟩⟩:=hOW.den;have hDK:D9.natAbs<=KK:=Nat.le_trans hDM HMK.o;have hKv:Kb 1 val:=zcs hD0 hDK hD1 HMK.o;have hKX:∀x∈X,Kb 1 x:=λx hx=>zcs hD0 hDK (hD2 x hx) HMK.o
 have hKY:∀x∈Y,Kb 1 x:=λx hx=>zcs hD0 hDK (hD3 x hx) HMK.o
 have hK1:Kb 1 1:=zbQ zei dM;have hv0:val.num≠0:=(λe=>by have h:=hOW.vp;rw[Rat.num_eq_zero.1 e]at h;exact Rat.lt_irrefl h);have HDs:Hid (zlI 1 val):=hii (hK1.divS hKv dM);have Hv0:=hii hv0;obtain⟨ld,hld⟩:∃d,1 / val=d:=⟨_,rfl⟩;have hKl:Kb 2 ld:=by rw[<-hld];exact hK1.div hKv hv0
 have HMX:Hid (∀x∈X,zeN x ld):=hii λx hx=>(hKX x hx).mulS hKl dM
 have HMY:Hid (∀x∈Y,zeN x ld):=hii λx hx=>(hKY x hx).mulS hKl dM
 have h0K:Kb 1 0:=zbQ (Sx.wh_zero.mono (Nat.zero_le 1)) dM;have HCX:Hid (∀x∈X,CrS (x*ld) 0):=hii λx hx=>((hKX x hx).mul hKl).crS h0K dM
 rw[hld]at hBal;have Hld:=hii hld;have HBal:=hii hBal;have HXl:Hid (X.length=n):=hii hOW.lX;have HYl:Hid (Y.length=m):=hii hOW.lY;clear hX hOW hBal hD0 hDM hD1 hD2 hD3 hDK hKv hKX hKY hK1 hv0 hKl h0K hld;obtain⟨J2,ao2,n2,Y2,K2,ap2,m2,Z2,aX,cX,aY,cY,rfl,hvV,uX,uY⟩:=hO;have hvV:zad w4 (qA J2 ao2 n2 Y2 K2 ap2 m2 Z2) val:=hvV;rw[List.length_map,List.length_map,HXl.o,HYl.o];go_upto_region 5 with fail;obtain⟨w5,g12,hw9,hg9,hb,r12⟩:=bxr w4 [.bool J2,.slice ao2 n2 Y2,.bool K2,.slice ap2 m2 Z2,.slice aX n cX,.slice aY m cY] 109;rw[<-hw9,<-hg9];have Hg12:Hid (w.heap.size<=g12):=hii (by have:=hbw.size;omega);clear hw9 hg9;have hvV:=hvV.mono hb;have uX:=uX.mono hb;have uY:=uY.mono hb;have hf:=hf.mono hb;have uR:=uR.mono hb;have uS:=uS.mono hb;have uC:=uC.mono hb;have hE:=hE.mono hb;have r1:=r1.below hb;have r2:=r2.below hb;have hbw:=bu hbw hb;clear hb;obtain⟨c0,c1,c2,c3⟩:=r1.n4;go_wp2_with fail;go_fit (HNW.o w5 uR uS hf uC hE);rintro e w6⟨⟨g13,rfl,hg13,hW⟩,hb⟩;clear uR uS uC hf HNW c0 c1 c2 c3 r1;have hvV:=hvV.mono hb;have uX:=uX.mono hb;have uY:=uY.mono hb;have hE:=hE.mono hb;have r2:=r2.below hb;have r12:=r12.below hb;have hbw:=bu hbw hb;clear hb;go_upto_region 8 with fail;obtain⟨wa,rfl⟩:=exi w6;refine zan (wx:=wa) (λ_=>False) [(λG X W=>((FQ 1):FV) G W (X 0)),(λ_ X _=>X 1=pT g12 0),(λ_ X _=>X 2=.agg #[.bool J2,.slice ao2 n2 Y2,.bool K2,.slice ap2 m2 Z2]),(λG X W=>((λ_ W v=>∃a,v=.tuple #[a,.int .i64 0]/\zad W a (ld)):FV) G W (X 3)),(λG X W=>((λ_ W v=>∃a,v=.tuple #[a,.int .i64 0]/\zad W a (ld)):FV) G W (X 4)),(λG X W=>((FQ (ld)):FV) G W (X 5)),(λ_ X _=>X 6=.int .i64 0),(λ_ _ _=>True),(λ_ _ _=>True),(λ_ X _=>X 9=.int .i64 0)] [some 55,some 56,some 57,some 58,some 54,some 59,some 60,some 15,none,some 11] [none,none,none,none,none,none,none,some ⟨8,5,32,[bF_,nS_,bF_,nS_]⟩,none,none] [55,56,57,58,54,59,60,15,11] ⟨(by intro u hu k z e;subst e;simp at hu),trivial⟩ (λb h=>h) br ⟨zaQ _,zaa _ _ _,zaa _ _ _,(zaq (F:=λ_ W v=>∃a,v=.tuple #[a,.int .i64 0]/\zad W a (ld)) λG G' W W' v ⟨a,e,h⟩ hk hn hG=>⟨a,e,h.kept hk hn⟩),(zaq (F:=λ_ W v=>∃a,v=.tuple #[a,.int .i64 0]/\zad W a (ld)) λG G' W W' v ⟨a,e,h⟩ hk hn hG=>⟨a,e,h.kept hk hn⟩),zaQ _,zaa _ _ _,zaj _,zaj _,zaa _ _ _,trivial⟩ ⟨⟨λ_ _ _=>trivial,λ_ _ _=>trivial⟩,trivial⟩ ⟨?s0,tX,?s2,?s3,?s4,?s5,?s6,?s7,?s8,tX,trivial⟩ ⟨?b7,trivial⟩ ?he
 case' s0|s2|s3|s4|s5|s6=>
  rintro-G T W hb hHG hGW hGo hNG hA K hK;simp only[yA,yB,Region.binds]at hA;simp only[sA,hA]at hK|-
 case' s0|s2=>
  have HK:=hii hK;clear hK hA
 case s0=>
  refine wO rfl ?_;go_simp;go_fit (zaK 1 dM dM W (hE.mono hb));rintro e w1⟨hz,hb1⟩;obtain⟨J5,ao5,n5,Y5,K5,ap5,m5,Z5,rfl,hV5⟩:=hz.rat;have hV5:zad w1 (qA J5 ao5 n5 Y5 K5 ap5 m5 Z5) 1:=hV5
  try dsimp only
  exact HK.o _ _ (hb1) λX hX _=>by
   show((FQ 1):FV) G _ (X 0)
   rw[hX];exact hV5
 case s2=>
  obtain⟨k0,k1,k2,k3,k4,k5⟩:=(r12.below hb).n6;exact cK
 case s3=>
  have r0:((FQ 1):FV) G W (T 55):=hA.1;have r0:zad W _ 1:=r0;obtain⟨J6,ao6,n6,Y6,K6,ap6,m6,Z6,e0⟩:=r0.parts;rw[e0]at r0;simp only[e0]at hK|-;have HK:=hii hK;clear hK hA;refine wO rfl ?_;go_simp;go_fit (zlH _ _ 1 val 0 W r0 (hvV.mono hb) Hv0 (hii (KQ.ok HDs.o)) (hE.mono hb));rintro e w1⟨hz,hb1⟩;rw[Hld.o]at hz;obtain⟨J7,ao7,n7,Y7,K7,ap7,m7,Z7,rfl,hV7⟩:=hz.got.rat
  try dsimp only
  exact HK.o _ _ (hb1) λX hX _=>by
   show((λ_ W v=>∃a,v=.tuple #[a,.int .i64 0]/\zad W a (ld)):FV) G _ (X 3)
   exact dQ
 case s4=>
  have r3:((λ_ W v=>∃a,v=.tuple #[a,.int .i64 0]/\zad W a (ld)):FV) G W (T 58):=hA.1;obtain⟨a6,e3,h6⟩:=r3;simp only[e3]at hK|-;have HK:=hii hK;clear hK hA;refine wO rfl ?_;go_simp;exact HK.o _ _ br λX hX _=>by
   show((λ_ W v=>∃a,v=.tuple #[a,.int .i64 0]/\zad W a (ld)):FV) G _ (X 4)
   exact dL
 case s5=>
  have r4:((λ_ W v=>∃a,v=.tuple #[a,.int .i64 0]/\zad W a (ld)):FV) G W (T 54):=hA.1;obtain⟨a6,e4,h6⟩:=r4;simp only[e4]at hK|-;have HK:=hii hK;clear hK hA;refine wO rfl ?_;go_simp;exact HK.o _ _ br λX hX _=>by
   show((FQ (ld)):FV) G _ (X 5)
   exact eM
 case s6=>
  have r4:((λ_ W v=>∃a,v=.tuple #[a,.int .i64 0]/\zad W a (ld)):FV) G W (T 54):=hA.1;obtain⟨a6,e4,h6⟩:=r4;simp only[e4]at hK|-;exact dB
 case s7=>exact λh=>absurd h dM
 case s8=>exact λh=>absurd h dM
 case b7=>
  refine⟨?_,?_⟩
  ·exact cG
  ·rintro o ho G T W nb hA hp hrow K hK;obtain rfl:=Option.some.inj ho;have ep:T 15=.pointer (sD nb 0):=hp;have r5:((FQ (ld)):FV) G W (T 59):=hA.2.1;have r5:zad W _ (ld):=r5;obtain⟨J8,ao8,n8,Y8,K8,ap8,m8,Z8,e5⟩:=r5.parts;have hK:=hK [.bool J8,.slice ao8 n8 Y8,.bool K8,.slice ap8 m8 Z8] (.inl e5) rfl (by intro u hu k z e;subst e;simp at hu);simp only[sA,ep,e5]at hK|-;exact cJ
 case he=>
  rintro GG N T W hb hHG hGW hGo hbox hNG hne hA;have fv:((FQ (ld)):FV) GG W (T 59):=hA.at 5 dM;have f9:T 11=.int .i64 0:=hA.at 9 dM;obtain⟨ep,_,hge,vs,hsto,hrow⟩:=hbox 7 _ rfl;have ep:T 15=.pointer (some ⟨N 7,0,none⟩):=ep;have fv:zad W _ (ld):=fv;obtain⟨J3,ao3,n3,Y3,K3,ap3,m3,Z3,e5⟩:=fv.parts;obtain rfl:=hsto.four e5;rw[e5]at fv;simp only[sA,ep,f9];obtain⟨g15,hg⟩:∃g,g=N 7:=⟨_,rfl⟩;rw[<-hg]at hrow hge|-;have Hg15:=hii hge;clear hA hbox hNG hne hHG hGW hGo ep f9 hsto hge e5 hg;have uX:=uX.mono hb;have uY:=uY.mono hb;have hW:=hW.mono hb;have hE:=hE.mono hb;have r2:=r2.below hb;have r12:=r12.below hb;have hbw:=bu hbw hb;clear hb;clear HDs Hv0 hvV;obtain⟨wb,rfl⟩:=exi W;have r15:Row wb g15 32 [.bool J3,.slice ao3 n3 Y3,.bool K3,.slice ap3 m3 Z3]:=hrow;have hL:=fv;clear hrow fv;obtain⟨k0,k1,k2,k3⟩:=r15.n4;go_upto_region 12 with fail;clear k0 k1 k2 k3;have hb:=bA wb (.cells #[.bool J3,.slice ao3 n3 Y3,.bool K3,.slice ap3 m3 Z3,nS_,nS_] 39);have hBB:=zm9 wb (J1:=J3) (ao1:=ao3) (n1:=n3) (Y1:=Y3) (K1:=K3) (ap1:=ap3) (m1:=m3) (Z1:=Z3);obtain⟨g16,hg⟩:∃g,g=wb.heap.size:=⟨_,rfl⟩;have hgl:wb.heap.size<=g16:=oM
  have H816:Hid (g2<g16):=hii (by have:=r2.lt;omega);have H1216:Hid (g12<g16/\g15<g16):=hii (by have:=r12.lt;have:=r15.lt;omega);rw[<-hg]at hBB|-;clear hg;have HbX:=hii hb;generalize wb.alloc (.cells #[.bool J3,.slice ao3 n3 Y3,.bool K3,.slice ap3 m3 Z3,nS_,nS_] 39)=w8 at*;have hW8:=hW.mono hb;go_wp2_with fail;go_fit (HPR.o g13 w8 hW8);rintro e w9⟨⟨vl,rfl,hOl⟩,hb9⟩;obtain⟨al,cl,rfl,-,uL⟩:=hOl.read;rw[Hn.o];have hal:∀a,al=some a->g16<a.block/\a.block<w9.heap.size:=λa e=>by
   subst e;have h1:=hOl.lt a.block rfl;have h2:=hBB.1.lt;exact⟨oM,h1.2⟩
  have HkA:=hii (hBB.1.below hb9);have HbX:=hii (HbX.o.trans (hb9.mono HbX.o.size));clear hOl hb hW8 HPR hW hBB hb9;obtain⟨wL,rfl⟩:=exi w9;have HgL:Hid (g16<wL.heap.size):=hii HkA.o.lt;have hBB:BB wL g16 wL.heap.size (.bool J3) (.slice ao3 n3 Y3) (.bool K3) (.slice ap3 m3 Z3) nS_ nS_ [] []:=⟨HkA.o,za6.nil _ _,zaI.nil _ _,zce _,HgL.o⟩;have HkL:Hid (zah (λb=>b=g16\/wL.heap.size<=b) wL wL):=hii (zah.refl _);clear HkA;have Hal:=hii hal;clear hal;go_wp2_with fail;go_loopw [70] (λs wr=>∃k:Nat,∃vS:Vl,k<=n/\s=.int .i64 k/\BB wr g16 wL.heap.size (.bool J3) (.slice ao3 n3 Y3) (.bool K3) (.slice ap3 m3 Z3) vS nS_ (shs (l.take k) ((X.map (·*ld)).take k)) []/\Hid (BH wb wr)/\Hid (zah (λb=>b=g16\/wL.heap.size<=b) wL wr)) (λs _=>n-(intOf s).toNat)
  case atStart=>exact⟨0,_,Nat.zero_le _,rfl,by simpa [shs]using hBB,HbX,HkL⟩
  case round=>
   clear hBB HbX HkL;obtain⟨k,vS,hk,rfl,hBB,HbX,HkL⟩:=hrel
   by_cases hlt:k<n
   ·obtain⟨q,hx⟩:∃x,l[k]?=some x:=⟨l[k]'(by rw[Hn.o];exact hlt),gE _⟩;obtain⟨x,hxx⟩:∃x,X[k]?=some x:=⟨X[k]'(by rw[HXl.o];exact hlt),gE _⟩;have hxm:=List.mem_of_getElem? hxx;have HM1:Hid (zeN x ld):=hii (HMX.o x hxm);have HC1:Hid (CrS (x*ld) 0):=hii (HCX.o x hxm);have HSh:=hii (zkR (P:=X.map (·*ld)) hx (x:=x*ld) (by rw[List.getElem?_map,hxx];rfl));have HSl:Hid ((shs (l.take k) ((X.map (·*ld)).take k)).length<=1000000):=hii (by have:=zgC (l.take k) ((X.map (·*ld)).take k);simp at this;omega);obtain⟨sh,hsh⟩:∃sh,(shs (l.take k) ((X.map (·*ld)).take k))=sh:=⟨_,rfl⟩;rw[hsh]at hBB HSh HSl;obtain⟨b1,off1,c,ea,hck,hcs,hcq⟩:=uL k q hx;obtain⟨r,s⟩:=q;have hc0:=hcs 0 (.int .u16 (r:Nat)) (by rw[hcq];rfl);have hc1:=hcs 1 (.int .u16 (s:Nat)) (by rw[hcq];rfl);subst ea;have hne:¬(λb=>b=g16\/wL.heap.size<=b) b1:=λh=>by have:=Hal.o _ rfl;simp only at this;rcases h with h|h<;>omega
    have hc0:=HkL.o.cell hc0 hne;have hc1:=HkL.o.cell hc1 hne;rw[Nat.add_zero]at hc0;rw[<-Nat.add_assoc]at hc1;obtain⟨bX,offX,J4,ao4,n4,Y4,K4,ap4,m4,Z4,eX,z4,hvx⟩:=(uX.mono HbX.o) k (some x) (by rw[List.getElem?_map,hxx];rfl);have hvx:zad wr (qA J4 ao4 n4 Y4 K4 ap4 m4 Z4) x:=hvx;have r12k:=r12.below HbX.o;have r15k:=r15.below HbX.o;have hLk:=hL.mono HbX.o;have hEk:=hE.mono HbX.o;have hxn:(k:Int)<(n:Int):=oM;subst eX;clear hx hxx hxm hsh hcs hcq hck hne;go_upto_region 15 with fail;have hb:=bA wr (.cells #[.int .u16 (r:Nat),.int .u16 (s:Nat)] 115);have r8:Row (wr.alloc (.cells #[.int .u16 (r:Nat),.int .u16 (s:Nat)] 115)) wr.heap.size 115 [.int .u16 (r:Nat),.int .u16 (s:Nat)]:=heap_alloc_new _ _;obtain⟨g18,hg⟩:∃g,g=wr.heap.size:=⟨_,rfl⟩;rw[<-hg]at r8|-;clear hg hc0 hc1;generalize wr.alloc (.cells #[.int .u16 (r:Nat),.int .u16 (s:Nat)] 115)=wc at*;have z4:=z4.mono hb;have hvx:=hvx.mono hb;have r12k:=r12k.below hb;have r15k:=r15k.below hb;have hLk:=hLk.mono hb;have hEk:=hEk.mono hb;have hbw9:=Below.step (Below.refl wr.heap.size wr) hb nl;clear hb;refine zan (wx:=wc) (λ_=>False) [(λ_ X _=>X 0=pT g12 4),(λ_ X _=>X 1=.slice (sD bX offX) n cX),(λ_ X _=>X 2=.int .i64 k),(λ_ X _=>X 3=.pointer (some ⟨bX,offX+k*4,none⟩)),(λ_ X _=>X 4=.agg #[.bool J4,.slice ao4 n4 Y4,.bool K4,.slice ap4 m4 Z4]),(λ_ X _=>X 5=.agg #[.bool J3,.slice ao3 n3 Y3,.bool K3,.slice ap3 m3 Z3]),(λG X W=>((λ_ W v=>∃a,v=.tuple #[a,.int .i64 0]/\zad W a (x*ld)):FV) G W (X 6)),(λG X W=>((λ_ W v=>∃a,v=.tuple #[a,.int .i64 0]/\zad W a (x*ld)):FV) G W (X 7)),(λG X W=>((FQ (x*ld)):FV) G W (X 8)),(λ_ X _=>X 9=.int .i64 0),(λ_ _ _=>True),(λ_ _ _=>True),(λ_ X _=>X 12=.int .i64 0)] [some 76,some 77,some 78,some 79,some 80,some 81,some 82,some 75,some 83,some 84,some 19,none,some 20] [none,none,none,none,none,none,none,none,none,none,some ⟨11,8,32,[bF_,nS_,bF_,nS_]⟩,none,none] [76,77,78,79,80,81,82,75,83,84,19,20] ⟨(by intro u hu k z e;subst e;simp at hu),trivial⟩ (λb h=>h) br ⟨zaa _ _ _,zaa _ _ _,zaa _ _ _,zaa _ _ _,zaa _ _ _,zaa _ _ _,(zaq (F:=λ_ W v=>∃a,v=.tuple #[a,.int .i64 0]/\zad W a (x*ld)) λG G' W W' v ⟨a,e,h⟩ hk hn hG=>⟨a,e,h.kept hk hn⟩),(zaq (F:=λ_ W v=>∃a,v=.tuple #[a,.int .i64 0]/\zad W a (x*ld)) λG G' W W' v ⟨a,e,h⟩ hk hn hG=>⟨a,e,h.kept hk hn⟩),zaQ _,zaa _ _ _,zaj _,zaj _,zaa _ _ _,trivial⟩ ⟨⟨λ_ _ _=>trivial,λ_ _ _=>trivial⟩,trivial⟩ ⟨tX,?s1,tX,tX,?s4,?s5,?s6,?s7,?s8,?s9,?s10,?s11,tX,trivial⟩ ⟨?b10,trivial⟩ ?he
    case' s1|s4|s5|s6|s7|s8|s9=>
     rintro-G T W hb hHG hGW hGo hNG hA K hK;simp only[yA,yB,Region.binds]at hA;simp only[sA,hA]at hK|-
    case' s1|s4|s5|s6=>
     have HK:=hii hK;clear hK hA
    case' s1=>
     obtain⟨k0,k1,k2,k3,k4,k5⟩:=(r12k.below hb).n6
    case' s4=>
     obtain⟨f0,f1,f2,f3,_,_,_,_⟩:=z4.mono hb
    case' s5=>
     obtain⟨k0,k1,k2,k3⟩:=(r15k.below hb).n4
    case s1|s4|s5=>
     exact cK
    case s6=>
     refine wO rfl ?_;go_simp;go_fit (znp _ _ x ld W (hvx.mono hb) (hLk.mono hb) HM1 (hEk.mono hb));rintro e w1⟨hz,hb1⟩;obtain⟨J7,ao7,n7,Y7,K7,ap7,m7,Z7,rfl,hV7⟩:=hz.rat
     try dsimp only
     exact HK.o _ _ (hb1) λX hX _=>by
      show((λ_ W v=>∃a,v=.tuple #[a,.int .i64 0]/\zad W a (x*ld)):FV) G _ (X 6)
      exact dQ
    case s7=>
     have r6:((λ_ W v=>∃a,v=.tuple #[a,.int .i64 0]/\zad W a (x*ld)):FV) G W (T 82):=hA.1;obtain⟨a6,e6,h6⟩:=r6;simp only[e6]at hK|-;have HK:=hii hK;clear hK hA;refine wO rfl ?_;go_simp;exact HK.o _ _ br λX hX _=>by
      show((λ_ W v=>∃a,v=.tuple #[a,.int .i64 0]/\zad W a (x*ld)):FV) G _ (X 7)
      exact dL
    case s8=>
     have r7:((λ_ W v=>∃a,v=.tuple #[a,.int .i64 0]/\zad W a (x*ld)):FV) G W (T 75):=hA.1;obtain⟨a6,e7,h6⟩:=r7;simp only[e7]at hK|-;have HK:=hii hK;clear hK hA;refine wO rfl ?_;go_simp;exact HK.o _ _ br λX hX _=>by
      show((FQ (x*ld)):FV) G _ (X 8)
      exact eM
    case s9=>
     have r7:((λ_ W v=>∃a,v=.tuple #[a,.int .i64 0]/\zad W a (x*ld)):FV) G W (T 75):=hA.1;obtain⟨a6,e7,h6⟩:=r7;simp only[e7]at hK|-;exact dB
    case s10=>exact λh=>absurd h dM
    case s11=>exact λh=>absurd h dM
    case b10=>
     refine⟨?_,?_⟩
     ·exact cG
     ·rintro o ho G T W nb hA hp hrow K hK;obtain rfl:=Option.some.inj ho;have ep:T 19=.pointer (sD nb 0):=hp;have r8:((FQ (x*ld)):FV) G W (T 83):=hA.2.1;have r8:zad W _ (x*ld):=r8;obtain⟨J8,ao8,n8,Y8,K8,ap8,m8,Z8,e8⟩:=r8.parts;have hK:=hK [.bool J8,.slice ao8 n8 Y8,.bool K8,.slice ap8 m8 Z8] (.inl e8) rfl (by intro u hu k z e;subst e;simp at hu);simp only[sA,ep,e8]at hK|-;exact cJ
    case he=>
     rintro GG N T W hb hHG hGW hGo hbox hNG hne hA;have fv:((FQ (x*ld)):FV) GG W (T 83):=hA.at 8 dM;have f12:T 20=.int .i64 0:=hA.at 12 dM;obtain⟨ep,_,hge,vs,hsto,hrow⟩:=hbox 10 _ rfl;have ep:T 19=.pointer (some ⟨N 10,0,none⟩):=ep;have fv:zad W _ (x*ld):=fv;obtain⟨J5,ao5,n5,Y5,K5,ap5,m5,Z5,e5⟩:=fv.parts;obtain rfl:=hsto.four e5;rw[e5]at fv;simp only[sA,ep,f12];obtain⟨g19,hg⟩:∃g,g=N 10:=⟨_,rfl⟩;rw[<-hg]at hrow hge|-;have Hg19:=hii hge;clear hA hbox hNG hne hHG hGW hGo ep f12 hsto hge e5 hg;have r8:=r8.below hb;have hbw9:=bu hbw9 hb;have hEk:=hEk.mono hb;clear hb r12k r15k hLk hvx z4;obtain⟨wd,rfl⟩:=exi W;have r19:Row wd g19 32 [.bool J5,.slice ao5 n5 Y5,.bool K5,.slice ap5 m5 Z5]:=hrow;clear hrow;obtain⟨cc,hcc⟩:∃c,Rq.cmpQ (x*ld) 0=c:=⟨_,rfl⟩;have Hcc:=hii hcc;clear hcc;go_upto_region 18 with fail;refine zae (wx:=wd) [vf (.agg #[.bool J5,.slice ao5 n5 Y5,.bool K5,.slice ap5 m5 Z5]),(λW v=>zad W v 0),vf (.int .i64 cc),vf (.bool (decide (0<cc)))] [89,90,91,92] br ⟨sV _,(λ_ _ _ h hb=>h.mono hb),sV _,sV _,trivial⟩ ⟨?s0,?s1,?s2,tV,trivial⟩ ?he
     case' s0|s1|s2=>
      rintro T W hb hA K hK;simp only[yA,Region.binds]at hA;simp only[sA,hA]at hK|-
     case' s0|s1=>
      have HK:=hii hK;clear hK hA
     case s0=>
      obtain⟨k0,k1,k2,k3⟩:=(r19.below hb).n4;exact cH
     case s1=>
      refine wO rfl ?_;go_simp;go_fit (zaK 0 dM dM W (hEk.mono hb));rintro e w1⟨hz,hb1⟩;obtain⟨J7,ao7,n7,Y7,K7,ap7,m7,Z7,rfl,hV7⟩:=hz.rat;have hV7:zad w1 (qA J7 ao7 n7 Y7 K7 ap7 m7 Z7) 0:=hV7
      try dsimp only
      exact dY
     case s2=>
      have r1:=hA.2.1;have HK:=hii hK;clear hK hA;have r1:zad W _ 0:=r1;obtain⟨J6,ao6,n6,Y6,K6,ap6,m6,Z6,e1⟩:=r1.parts;rw[e1]at r1;simp only[e1]at HK|-;refine wO rfl ?_;go_simp;go_fit (za3 _ _ (x*ld) 0 W (fv.mono hb) r1 HC1 (hEk.mono hb));rw[Hcc.o];rintro e w1⟨rfl,hb1⟩
      try dsimp only
      exact d6
     case he=>
      rintro T W hb hA;have f3:T 92=.bool (decide (0<cc)):=hA.at 3 dM;simp only[sA,f3];have r8:=r8.below hb;have r19:=r19.below hb;have fv:=fv.mono hb;have hbw9:=bu hbw9 hb;clear hb hA f3 hEk;have hBB:=hBB.mono hbw9;have HbX:=hii (HbX.o.trans (hbw9.mono HbX.o.size));have HkL:=hii (HkL.o.trans (zah.of_below hbw9));clear hbw9;obtain⟨we,rfl⟩:=exi W
      by_cases hp:0<x*ld
      ·have hd:decide (0<cc)=true:=decide_eq_true (by rw[<-Hcc.o,zj8 hp];decide);rw[if_pos hp]at HSh;rw[hd];obtain⟨aS0,cS0,eS0,_,_⟩:=hBB.2.1.read;obtain⟨nS,hnS⟩:∃nS,sh.length=nS:=⟨_,rfl⟩;rw[hnS]at eS0;subst eS0;have HBB:=hii hBB;have HSB:=hii (Nat.le_trans nl HkL.o.size);obtain⟨y0,y1,y2,y3,y4,y5⟩:=Row.n6 hBB.1;have d0:=r8.cell (k:=0) sM;have d1:=r8.cell (k:=1) sM;simp only[List.getElem_cons_zero,List.getElem_cons_succ]at d0 d1;obtain⟨k0,k1,k2,k3⟩:=r19.n4;clear hBB hd;go_wp2_with (at_builtin;go_loud (refine zoq zaD zao Tryz.slice37 Tryz.info59 rfl dM dM zlW we we wL.heap.size rfl (.tmp 94) (.tmp 101) rfl (a:=((r,s),x*ld)) rfl rfl HBB.o.2.1 HSB.o br rfl zoN zlW ⟨_,_,_,_,_,_,_,_,rfl,fv⟩ HSl.o ?_);intro a3 n3' c3 w6 hO2 hb2 hk2 hn2;have hP2:=hii (HBB.o.putS hO2 hk2 hn2 zoO);obtain⟨y0,y1,y2,y3,y4,y5⟩:=hP2.o.1.n6;have q0:=hP2.o.1.free 4);have hb5:=hii ((HbX.o.trans (hb2.mono (by have:=HgL.o;omega))).setCell (p:=⟨g16,4,none⟩) hgl (.slice a3 n3' c3));have hk5:zah (λb=>b=g16\/wL.heap.size<=b) we (w6.setCell (aD_ g16 4) (.slice a3 n3' c3)):=(zff hb2).setCell (p:=⟨g16,4,none⟩) (.inl rfl) _;have hk5:=hii (HkL.o.trans hk5);go_roundw
       case rel=>exact⟨k+1,_,oM,gM,by rw[HSh.o];exact hP2.o.2,hb5,hk5⟩
       case measure=>exact mM
      ·have hd:decide (0<cc)=false:=decide_eq_false (by rw[<-Hcc.o];have:=zj9 (Rat.not_lt.1 hp);omega);rw[if_neg hp,List.append_nil]at HSh;rw[hd];clear hd;go_wp2;go_roundw
       case rel=>exact⟨k+1,_,oM,gM,by rw[HSh.o];exact hBB,HbX,HkL⟩
       case measure=>exact mM
   ·have hkn:k=n:=oM;rw[hkn,List.take_of_length_le (by rw[Hn.o];exact nl),List.take_of_length_le (by rw[List.length_map,HXl.o];exact nl)]at hBB;obtain⟨sh,hsh⟩:∃sh,shs l (X.map (·*ld))=sh:=⟨_,rfl⟩;have Hsh:=hii hsh;rw[hsh]at hBB;have hk2:¬(k:Int)<(n:Int):=oM;obtain⟨aS0,cS0,eS0,_,_⟩:=hBB.2.1.read;obtain⟨nS,hnS⟩:∃nS,sh.length=nS:=⟨_,rfl⟩;rw[hnS]at eS0;subst eS0;have HnS:=hii hnS;have HLs:Hid (wL.heap.size<=wr.heap.size):=hii HkL.o.size;clear hsh hlt hkn HkL uL hnS;obtain⟨-,-,-,-,-,k5⟩:=(r12.below HbX.o).n6;go_wp2_with fail;clear k5 hk2;go_loopw [108] (λs wr=>∃j:Nat,∃vQ:Vl,j<=m/\s=.int .i64 j/\BB wr g16 wL.heap.size (.bool J3) (.slice ao3 n3 Y3) (.bool K3) (.slice ap3 m3 Z3) (.slice aS0 nS cS0) vQ sh (((Y.map (·*ld)).take j).map some)/\Hid (BH wb wr)/\Hid (wL.heap.size<=wr.heap.size)) (λs _=>m-(intOf s).toNat)
    case atStart=>exact⟨0,_,Nat.zero_le _,rfl,hBB,HbX,HLs⟩
    case round=>
     clear hBB HbX HLs;obtain⟨j,vQ,hj,rfl,hBB,HbX,HLs⟩:=hrel
     by_cases hlj:j<m
     ·obtain⟨y,hyy⟩:∃x,Y[j]?=some x:=⟨Y[j]'(by rw[HYl.o];exact hlj),gE _⟩;have HM1:Hid (zeN y ld):=hii (HMY.o y (List.mem_of_getElem? hyy));have HQ1:Hid (((Y.map (·*ld)).take (j+1)).map (some:Rat->Qo)=((Y.map (·*ld)).take j).map some++[some (y*ld)]):=hii (by rw[List.take_add_one,List.getElem?_map,hyy];simp);obtain⟨pr,hpr⟩:∃p,((Y.map (·*ld)).take j).map (some:Rat->Qo)=p:=⟨_,rfl⟩;have HPl:Hid (pr.length<=100000):=hii (by rw[<-hpr];simp;omega);rw[hpr]at hBB HQ1;obtain⟨bY,offY,J6,ao6,n6,Y6,K6,ap6,m6,Z6,eY,z6,hvy⟩:=(uY.mono HbX.o) j (some y) (by rw[List.getElem?_map,hyy];rfl);have hvy:zad wr (qA J6 ao6 n6 Y6 K6 ap6 m6 Z6) y:=hvy;have r15k:=r15.below HbX.o;have hLk:=hL.mono HbX.o;have hEk:=hE.mono HbX.o;subst eY;clear hyy hpr;obtain⟨f0,f1,f2,f3,_,_,_,_⟩:=z6;have hbr:=Below.refl wr.heap.size wr;go_upto_region 24 with fail;clear f0 f1 f2 f3;have hbw:=hbr;obtain⟨wc,g22,hw9,hg9,hb,r22⟩:=bxr wr [.bool J6,.slice ao6 n6 Y6,.bool K6,.slice ap6 m6 Z6] 32;rw[<-hw9,<-hg9];have Hg22:Hid (wr.heap.size<=g22):=hii (by have:=hbw.size;omega);clear hw9 hg9;have hvy:=hvy.mono hb;have hLk:=hLk.mono hb;have hEk:=hEk.mono hb;have r15k:=r15k.below hb;have hbr:=bu hbr hb;clear hb hbw;obtain⟨e0,e1,e2,e3⟩:=r22.n4;obtain⟨k0,k1,k2,k3⟩:=r15k.n4;go_wp2_with fail;go_fit (znp _ _ y ld wc hvy hLk HM1 hEk);rintro e wd⟨hz,hb⟩;obtain⟨J7,ao7,n7,Y7,K7,ap7,m7,Z7,rfl,hvp⟩:=hz.rat;have hbr:=bu hbr hb;clear hb hz e0 e1 e2 e3 k0 k1 k2 k3 r22 r15k hLk hEk hvy;go_upto_region 25 with fail;have hbw:=hbr;obtain⟨we,g23,hw9,hg9,hb,r23⟩:=bxr wd [.bool J7,.slice ao7 n7 Y7,.bool K7,.slice ap7 m7 Z7] 32;rw[<-hw9,<-hg9];have Hg23:Hid (wr.heap.size<=g23):=hii (by have:=hbw.size;omega);clear hw9 hg9;have hvp:=hvp.mono hb;have hbr:=bu hbr hb;clear hb hbw;have hBB:=hBB.mono hbr;have HbX:=hii (HbX.o.trans (hbr.mono HbX.o.size));have hszr:=hbr.size;clear hbr;obtain⟨aQ0,cQ0,eQ0,_⟩:=hBB.2.2.1.read;obtain⟨nQ,hnQ⟩:∃nQ,pr.length=nQ:=⟨_,rfl⟩;rw[hnQ]at eQ0;subst eQ0;have HBB:=hii hBB;have HSB:Hid (wL.heap.size<=we.heap.size):=hii (Nat.le_trans HLs.o hszr);obtain⟨y0,y1,y2,y3,y4,y5⟩:=Row.n6 hBB.1;obtain⟨k0,k1,k2,k3⟩:=r23.n4;clear hBB r23;go_wp2_with (at_builtin;go_loud (refine zkf we we wL.heap.size rfl (.tmp 123) (.tmp 125) rfl rfl rfl HBB.o.2.2.1 HSB.o br hvp HPl.o ?_);intro a3 n3' c3 w6 W1 hb1 hO2 hb2 gr2;have hP2:=hii ((HBB.o.mono hb1).putQ hO2 gr2 noI6');obtain⟨y0,y1,y2,y3,y4,y5⟩:=hP2.o.1.n6;have q0:=hP2.o.1.free 5);have hb5:=hii ((HbX.o.trans (hb2.mono (by have:=HgL.o;omega))).setCell (p:=⟨g16,5,none⟩) hgl (.slice a3 n3' c3));go_roundw
      case rel=>exact⟨j+1,_,oM,gM,by rw[HQ1.o];exact hP2.o.2,hb5,hii (by have:=hb2.size;have:=HSB.o;simp only[World.size_setCell];omega)⟩
      case measure=>exact mM
     ·have hjm:j=m:=oM;rw[hjm,List.take_of_length_le (by rw[List.length_map,HYl.o];exact nl)]at hBB;have hj2:¬(j:Int)<(m:Int):=oM;obtain⟨aQ0,cQ0,eQ0,_⟩:=hBB.2.2.1.read;obtain⟨nQ,hnQ⟩:∃nQ,((Y.map (·*ld)).map (some:Rat->Qo)).length=nQ:=⟨_,rfl⟩;rw[hnQ]at eQ0;subst eQ0;have hr:=zm7 (r2.below HbX.o) zoO hBB (hL.mono HbX.o) (by have:=H816.o;have:=HgL.o;omega);have Hr:=hii hr;have Hbw:=hii (hr.2.2 w.heap.size w Hg2.o (hbw.trans (HbX.o.mono hbw.size)));have r2':=r2.below HbX.o;obtain⟨y0,y1,y2,y3,y4,y5⟩:=Row.n6 hBB.1;have q0:=r2'.free 0;have q1:=r2'.free 1;have q2:=r2'.free 2;have q3:=r2'.free 3;have q4:=r2'.free 4;have q5:=r2'.free 5;obtain⟨p0,p1,p2,p3,p4,p5⟩:=r2'.n6;clear hr hBB hjm hlj r2' r2 r12 r15 hL hE uX uY hbw HbX;go_wp2;obtain⟨R1,R2,-⟩:=Hr.o;obtain⟨p0,p1,p2,p3,p4,p5⟩:=Row.n6 R1;refine bodyPost_ret (v:=.tuple #[.agg #[.bool J3,.slice ao3 n3 Y3,.bool K3,.slice ap3 m3 Z3,.slice aS0 nS cS0,.slice aQ0 nQ cQ0],.int .i64 0]) (by simp[results,Tryz.results26,go_sem,p0,p1,p2,p3,p4,p5]) rfl ⟨⟨_,ld,X.map (·*ld),Y.map (·*ld),rfl,?_,HBal.o⟩,Hbw.o⟩;rw[Hsh.o];exact R2
theorem zad.cr01{w:Wo}{r:Rat}(h:zad w v r):CrS r 0/\CrS r 1:=by
 obtain⟨_,_,_,_,_,_,_,_,_,h1,h2⟩:=h;obtain⟨_,_,_,_,_,_,_,HB1,_⟩:=h1;obtain⟨_,_,_,_,_,_,_,HB2,_⟩:=h2;have b1:=HB1.o;have b2:=HB2.o;have hz:(0:Nat)<Bi.Big:=by unfold Bi.Big;decide
 refine⟨⟨?_,?_⟩,⟨?_,?_⟩⟩
 ·show(r.num*((0:Rat).den:Int)).natAbs<Bi.Big
  rw[show((0:Rat).den:Int)=1 from rfl,Int.mul_one];exact b1
 ·show((0:Rat).num*(r.den:Int)).natAbs<Bi.Big
  rw[show(0:Rat).num=0 from rfl,Int.zero_mul];exact hz
 ·show(r.num*((1:Rat).den:Int)).natAbs<Bi.Big
  rw[show((1:Rat).den:Int)=1 from rfl,Int.mul_one];exact b1
 ·show((1:Rat).num*(r.den:Int)).natAbs<Bi.Big
  rw[show(1:Rat).num=1 from rfl,Int.one_mul];exact b2
theorem zlu(a b:Rat):decide (Rq.cmpQ a b<0)=decide (a<b):=by
 unfold Rq.cmpQ
 split
 ·next h=>simp[h]
 ·next h=>
  split<;>simp[h]
theorem zm2(a b : Rat) : (Rq.cmpQ a b != 0) = !decide (a = b) := by
  unfold Rq.cmpQ
  split
  · next h=>have : a≠b := fun e=>by rw[e]at h;exact Rat.lt_irrefl h
            simp[this]
  · next h=>
    split
    · next h2=>have : a≠b := fun e=>by rw[e]at h2;exact Rat.lt_irrefl h2
               simp[this]
    · next h2=>have : a = b := Rat.le_antisymm (Rat.not_lt.1 h2) (Rat.not_lt.1 h)
               simp[this]
def zaL(w:Wo)(c:List Vl)(s:(Nat×Nat)×Qo):Prop:=∃J1 ao1 n1 Y1 K1 ap1 m1 Z1,c=[.int .u16 (s.1.1:Nat),.int .u16 (s.1.2:Nat),.bool J1,.slice ao1 n1 Y1,.bool K1,.slice ap1 m1 Z1]/\QV w (.agg #[.bool J1,.slice ao1 n1 Y1,.bool K1,.slice ap1 m1 Z1]) s.2
theorem zag:zdh zaL:=λG w w' c s h hk hn=>by
 obtain⟨J1,ao1,n1,Y1,K1,ap1,m1,Z1,e,h⟩:=h;exact⟨J1,ao1,n1,Y1,K1,ap1,m1,Z1,e,h.keptU hk hn⟩
def shQ(sh:List ((Nat×Nat)×Rat)):List ((Nat×Nat)×Qo):=sh.map λs=>(s.1,some s.2)
theorem EU.shareQ{w:Wo}(h:EU 6 zaD w ao sh):EU 6 zaL w ao (shQ sh):=λi s hi=>by
 unfold shQ at hi;rw[List.getElem?_map]at hi
 cases hs:sh[i]? with
 |none=>rw[hs]at hi;cases hi
 |some x=>
  rw[hs]at hi
  cases hi
  obtain⟨b,off,c,e,hk,hc,J1,ao1,n1,Y1,K1,ap1,m1,Z1,e2,hr⟩:=h i x hs;exact⟨b,off,c,e,hk,hc,J1,ao1,n1,Y1,K1,ap1,m1,Z1,e2,hr⟩
theorem EU.six{w:Wo}{l:List ((Nat×Nat)×Qo)}(h:EU 6 zaL w ao l){s:(Nat×Nat)×Qo}(hk:l[k]?=some s):∃b off J1 ao1 n1 Y1 K1 ap1 m1 Z1,ao=sD b off/\QV w (.agg #[.bool J1,.slice ao1 n1 Y1,.bool K1,.slice ap1 m1 Z1]) s.2 /\
  w.cell? ⟨b,off+k*6,none⟩=some (.int .u16 (s.1.1:Nat))/\w.cell? ⟨b,off+k*6+1,none⟩=some (.int .u16 (s.1.2:Nat))/\w.cell? ⟨b,off+k*6+2,none⟩=some (.bool J1)/\w.cell? ⟨b,off+k*6+3,none⟩=some (.slice ao1 n1 Y1)/\w.cell? ⟨b,off+k*6+4,none⟩=some (.bool K1)/\w.cell? ⟨b,off+k*6+5,none⟩=some (.slice ap1 m1 Z1):=by
 obtain⟨b,off,c,e,_,hc,J1,ao1,n1,Y1,K1,ap1,m1,Z1,e2,hq⟩:=h k s hk;subst e2;exact⟨b,off,J1,ao1,n1,Y1,K1,ap1,m1,Z1,e,hq,hc 0 _ rfl,hc 1 _ rfl,hc 2 _ rfl,hc 3 _ rfl,hc 4 _ rfl,hc 5 _ rfl⟩
open Classical in
noncomputable def znh(s:Option Rat)(x:Rat):Option Rat:=match s with
 |none=>none
 |some r=>if zcI r x then some (r+x)else none
open Classical in
theorem zdE{r x:Rat}(h:zcI r x):znh (some r) x=some (r+x):=by show(if zcI r x then some (r+x)else none)=_;rw[if_pos h]
open Classical in
theorem zng{r x:Rat}(h:¬zcI r x):znh (some r) x=none:=by show(if zcI r x then some (r+x)else none)=_;rw[if_neg h]
noncomputable def sumO(l:List Rat):Option Rat:=l.foldl znh (some 0)
theorem zcO(l:List Rat)(x:Rat):sumO (l++[x])=znh (sumO l) x:=by unfold sumO;rw[List.foldl_append];rfl
def znj(w:Wo)(g:Nat):Option Rat->Prop
 |some r=>zcq w g 0 r
 |none=>zcq w g 3 0
theorem znj.mono{w:Wo}{o:Option Rat}(h:znj w g o)(hb:BH w w'):znj w' g o:=by
 cases o
 ·exact zcq.mono h hb
 ·exact zcq.mono h hb
def ziM:Qo->Bool
 |none=>true
 |some r=>decide (r<0)
def zjB:Option Rat->Nat
 |none=>3
 |some r=>if r=1 then 0 else 1
noncomputable def zav(po:List Qo):Nat:=if po.any ziM then 1 else zjB (sumO (po.map zeb))
theorem zne(g:Nat)(k:Int)(r:Rat)(vx:Vl)(x:Rat)(w:Wo)(hs:zcq w g k r)(hx:zad w vx x)(hk:(k==0)=false) :
  CP 93 #[pT g 0,vx] w λe w'=>e=.returned (.tuple #[])/\BH w w':=by
 obtain⟨J1,ao1,n1,Y1,K1,ap1,m1,Z1,rS,-⟩:=hs;obtain⟨J2,ao2,n2,Y2,K2,ap2,m2,Z2,rfl⟩:=hx.parts;go_enter func93,ntmps93;go_upto_region 1 with fail;have hb:=bA w (.cells #[.bool J2,.slice ao2 n2 Y2,.bool K2,.slice ap2 m2 Z2] 32);have rS:=rS.below hb;generalize w.alloc (.cells #[.bool J2,.slice ao2 n2 Y2,.bool K2,.slice ap2 m2 Z2] 32)=w1 at*;obtain⟨c0,c1,c2,c3,c4⟩:=rS.n5;go_wp2;go_end0;exact⟨rfl,hb⟩
theorem znf(g:Nat)(o:Option Rat)(x:Rat)(vx:Vl)(w:Wo)(hs:znj w g o)(hx:zad w vx x)(hE:Env w) :
  CP 93 #[pT g 0,vx] w λe w'=>e=.returned (.tuple #[])/\znj w' g (znh o x)/\zah (λb=>b=g) w w':=by
 cases o with
 |none=>
  refine(zne g 3 0 vx x w hs hx rfl).mono ?_;rintro e w'⟨rfl,hb⟩;exact⟨rfl,zcq.mono hs hb,.of_below hb⟩
 |some r=>
  by_cases hA:zcI r x
  ·refine(zkk g r x 0 vx w hs hx (hii (KQ.ok hA)) hE).mono ?_;rintro e w'⟨rfl,h1,h2⟩;refine⟨rfl,?_,h2⟩;rw[zdE hA];exact h1
  ·refine(zkk g r x 3 vx w hs hx (hii (.inr ⟨rfl,hA⟩)) hE).mono ?_;rintro e w'⟨rfl,h1,h2⟩;refine⟨rfl,?_,h2⟩;rw[zng hA];obtain⟨J1,ao1,n1,Y1,K1,ap1,m1,Z1,h3,_⟩:=h1;exact⟨J1,ao1,n1,Y1,K1,ap1,m1,Z1,h3,λe=>absurd e dM⟩
theorem zhf(l:LN)(x:Nat)(aa:OA)(ca:Nat)(w:Wo)(hl:l.length<=1000000)(ua:zaF w aa l) :
  CP 146 #[.slice aa l.length ca,.int .u16 (x:Nat)] w λe w'=>e=.returned (.int .i64 (zeC (λy=>decide (y=x)) l))/\BH w w':=by
 have hbw:=Below.refl w.heap.size w;go_enter func146,ntmps146;go_wp2_with fail;go_loopw [8] (λs wr=>∃k:Nat,k<=l.length/\s=.int .i64 k/\Hid (∀y∈l.take k,decide (y=x)=false)/\Hid (wr=w)) (λs _=>l.length-(intOf s).toNat)
 case atStart=>exact⟨0,Nat.zero_le _,rfl,hii sM,hii (by first|rfl|trivial)⟩
 case round=>
  obtain⟨k,hk,rfl,HN,HW⟩:=hrel;obtain rfl:=HW.o
  by_cases hlt:k<l.length
  ·obtain⟨y,hx⟩:∃x,l[k]?=some x:=⟨l[k],gE hlt⟩;obtain⟨b1,off1,ea,hc⟩:=ua k y hx;have Hx:=hii hx;clear hx ua;subst ea
   by_cases hq:y=x
   ·subst hq;go_wp2;go_ret;exact⟨by rw[zcp Hx.o (decide_eq_true rfl) HN.o];rfl,hbw⟩
   ·have hq2:((x:Int)==(y:Int))=false:=by simp;omega
    have Hq:=hii hq;clear hq;go_wp2;go_roundw
    case rel=>
     refine⟨k+1,oM,gM,hii λz hz=>?_,hii (by first|rfl|trivial)⟩;rw[zaw Hx.o]at hz;rcases List.mem_append.1 hz with h|h
     ·exact HN.o z h
     ·simp at h;subst h;exact decide_eq_false Hq.o
    case measure=>exact mM
  ·exact dC
theorem zcB(l:LN)(x:Nat)(aa:OA)(ca:Nat)(w:Wo)(hl:l.length<=1000000)(ua:zaF w aa l) :
  CP 106 #[.slice aa l.length ca,.int .u16 (x:Nat)] w λe w'=>e=.returned (.bool (l.any λy=>decide (y=x)))/\BH w w':=by
 have hC:=zhf l x aa ca w hl ua;rw[<-zdA];generalize zeC (λy=>decide (y=x)) l=i at hC|-;clear ua;go_enter func106,ntmps106;go_wp2_with fail;(with_reducible refine hC.mono ?_);rintro e v2⟨rfl,hb⟩;go_wp2
 all_goals go_ret
 all_goals exact⟨by simp_all,hb⟩
def zl7(g:Nat)(lb:Array Vl)(p:(Nat×Nat)×Qo->Bool)(l:List ((Nat×Nat)×Qo))(w:Wo):Prop :=
 ∀(s:(Nat×Nat)×Qo){J1:Bool}{ao1:OA}{n1 Y1:Nat}{K1:Bool}{ap1:OA}{m1 Z1:Nat}(W:Wo),s∈l->QV W (.agg #[.bool J1,.slice ao1 n1 Y1,.bool K1,.slice ap1 m1 Z1]) s.2->BH w W->CP g (#[.agg #[.int .u16 (s.1.1:Nat),.int .u16 (s.1.2:Nat),.bool J1,.slice ao1 n1 Y1,.bool K1,.slice ap1 m1 Z1]]++lb) W λe W'=>e=.returned (.bool (p s))/\BH W W'
theorem ziP(g:Nat)(lb:Array Vl)(p:(Nat×Nat)×Qo->Bool)(eg:∀args w,(callFunc g args).run Tryz.prog w=.ok (.enter g args) w)(l:List ((Nat×Nat)×Qo))(aa:OA)(ca:Nat)(w:Wo)(hl:l.length<=1000000)(ua:EU 6 zaL w aa l)(hp:zl7 g lb p l w) :
  CP 145 #[.slice aa l.length ca,.func (.func g) #[] lb] w λe w'=>e=.returned (.int .i64 (zeC p l))/\BH w w':=by
 have hbw:=Below.refl w.heap.size w;have hp:=hii hp;go_enter func145,ntmps145;go_wp2_with fail;go_loopw [8] (λs wr=>∃k:Nat,k<=l.length/\s=.int .i64 k/\Hid (∀x∈l.take k,p x=false)/\BH w wr) (λs _=>l.length-(intOf s).toNat)
 case atStart=>exact⟨0,Nat.zero_le _,rfl,hii sM,hbw⟩
 case round=>
  clear hbw;obtain⟨k,hk,rfl,HN,hbw⟩:=hrel
  by_cases hlt:k<l.length
  ·obtain⟨x,hx⟩:∃x,l[k]?=some x:=⟨l[k],gE hlt⟩;obtain⟨b1,off1,J1,ao1,n1,Y1,K1,ap1,m1,Z1,ea,hv,h0,h1,h2,h3,h4,h5⟩:=(ua.mono zag hbw).six hx;have hcall:=hp.o x wr (List.mem_of_getElem? hx) hv hbw;have Hx:=hii hx;clear hx ua hv;subst ea;have hkl:(k:Int)<(l.length:Int):=oM
   cases hq:p x with
   |true=>
    rw[hq]at hcall;have Hq:=hii hq;clear hq;go_wp2_with (go_at_fn g;refine hcall.mono ?_;rintro e v2⟨rfl,hb⟩);have hbw:=bu hbw hb;go_ret;exact⟨by rw[zcp Hx.o Hq.o HN.o];rfl,hbw⟩
   |false=>
    rw[hq]at hcall;have Hq:=hii hq;clear hq;go_wp2_with (go_at_fn g;refine hcall.mono ?_;rintro e v2⟨rfl,hb⟩);have hbw:=bu hbw hb;go_roundw
    case rel=>
     refine⟨k+1,oM,gM,hii λy hy=>?_,hbw⟩;rw[zaw Hx.o]at hy;rcases List.mem_append.1 hy with h|h
     ·exact HN.o y h
     ·simp at h;subst h;exact Hq.o
    case measure=>exact mM
  ·exact dC
theorem zfu(g:Nat)(lb:Array Vl)(p:(Nat×Nat)×Qo->Bool)(eg:∀args w,(callFunc g args).run Tryz.prog w=.ok (.enter g args) w)(l:List ((Nat×Nat)×Qo))(aa:OA)(ca:Nat)(w:Wo)(hl:l.length<=1000000)(ua:EU 6 zaL w aa l)(hp:zl7 g lb p l w) :
  CP 104 #[.slice aa l.length ca,.func (.func g) #[] lb] w λe w'=>e=.returned (.bool (l.any p))/\BH w w':=by
 have hC:=ziP g lb p eg l aa ca w hl ua hp;rw[<-zdA];generalize zeC p l=i at hC|-;clear ua hp eg;go_enter func104,ntmps104;go_wp2_with fail;(with_reducible refine hC.mono ?_);rintro e v2⟨rfl,hb⟩;go_wp2
 all_goals go_ret
 all_goals exact⟨by simp_all,hb⟩
theorem zhI(L:List ((Nat×Nat)×Qo))(aa:OA)(ca:Nat)(w:Wo)(hl:L.length<=1000000)(ua:EU 6 zaL w aa L)(hE:Env w) :
  CP 47 #[.slice aa L.length ca] w λe w'=>e=.returned (.int .i64 (zav (L.map (·.2)):Nat))/\BH w w':=by
 have hbw:=Below.refl w.heap.size w;obtain⟨E,hE1⟩:∃E,zav (L.map (·.2))=E:=⟨_,rfl⟩;rw[hE1];have HE:=hii hE1;clear hE1;obtain⟨N,hN⟩:∃N,L.length=N:=⟨_,rfl⟩;rw[hN]at hl|-;have HN:=hii hN;clear hN;go_enter func47,ntmps47;go_wp2_with fail;go_fit (zdT w hE);rintro e w1⟨⟨g,rfl,hg,hS⟩,hb⟩;have hbw:=bu hbw hb;have hS:znj w1 g (sumO (((L.take 0).map (·.2)).map zeb)):=hS;clear hb;go_wp2_with fail;go_loopw [9] (λs wr=>∃k:Nat,k<=N/\s=.int .i64 k/\znj wr g (sumO (((L.take k).map (·.2)).map zeb))/\Hid (((L.take k).map (·.2)).any ziM=false)/\BH w wr) (λs _=>N-(intOf s).toNat)
 case atStart=>exact⟨0,Nat.zero_le _,rfl,hS,hii sM,hbw⟩
 case round=>
  clear hbw hS;obtain⟨k,hk,rfl,hS,HB,hbw⟩:=hrel
  by_cases hlt:k<N
  ·obtain⟨⟨⟨r,s⟩,o⟩,hx⟩:∃x,L[k]?=some x:=⟨L[k]'(by rw[HN.o];exact hlt),gE _⟩;obtain⟨b1,off1,J1,ao1,n1,Y1,K1,ap1,m1,Z1,ea,hv,h0,h1,h2,h3,h4,h5⟩:=(ua.mono zag hbw).six hx;have HT:Hid ((L.take (k+1)).map (·.2)=(L.take k).map (·.2)++[o]):=hii (by rw[zaw hx];simp);have HM:Hid (o∈L.map (·.2)):=hii (List.mem_map.2 ⟨_,List.mem_of_getElem? hx,rfl⟩);have hkl:(k:Int)<(N:Int):=oM;have hEr:=hE.mono hbw;clear hx;subst ea;go_upto_region 5 with fail;clear h0 h1 h2 h3 h4 h5;have hb:=bA wr (.cells #[.int .u16 (r:Nat),.int .u16 (s:Nat),.bool J1,.slice ao1 n1 Y1,.bool K1,.slice ap1 m1 Z1] 59);have r5:Row (wr.alloc (.cells #[.int .u16 (r:Nat),.int .u16 (s:Nat),.bool J1,.slice ao1 n1 Y1,.bool K1,.slice ap1 m1 Z1] 59)) wr.heap.size 59 [.int .u16 (r:Nat),.int .u16 (s:Nat),.bool J1,.slice ao1 n1 Y1,.bool K1,.slice ap1 m1 Z1]:=heap_alloc_new _ _;obtain⟨g5,hg5⟩:∃g,g=wr.heap.size:=⟨_,rfl⟩;rw[<-hg5]at r5|-;clear hg5;generalize wr.alloc (.cells #[.int .u16 (r:Nat),.int .u16 (s:Nat),.bool J1,.slice ao1 n1 Y1,.bool K1,.slice ap1 m1 Z1] 59)=wc at*;have hv:=hv.mono hb;have hS:=hS.mono hb;have hE:=hEr.mono hb;have hbw:=bu hbw hb;clear hb hEr
   cases o with
   |none=>
    have hv:VQ wc (.agg #[.bool J1,.slice ao1 n1 Y1,.bool K1,.slice ap1 m1 Z1]) false:=hv;have HE1:Hid (E=1):=hii (by rw[<-HE.o];unfold zav;rw[if_pos (List.any_eq_true.2 ⟨none,HM.o,rfl⟩)]);clear HE HM HT;refine zae (wx:=wc) [vf (pT g5 2),vf (.agg #[.bool J1,.slice ao1 n1 Y1,.bool K1,.slice ap1 m1 Z1]),vf bF_,vf (.bool true),vf (.bool true),vf undef,vf undef,vf undef,vf undef,vf undef,vf (.bool true)] [13,14,15,16,17,18,19,20,21,22,23] br zS ⟨tV,?s1,?s2,tV,tV,tU,tU,tU,tU,tU,tV,trivial⟩ ?he
    case s1=>
     rintro T W hb hA K hK;simp only[yA,Region.binds]at hA;simp only[sA,hA]at hK|-;have HK:=hii hK;clear hK hA;have h9:=r5.below hb;obtain⟨k0,k1,k2,k3,k4,k5⟩:=h9.n6;exact cH
    case s2=>
     rintro T W hb hA K hK;simp only[yA,Region.binds]at hA;simp only[sA,hA]at hK|-;have HK:=hii hK;clear hK hA;refine wO rfl ?_;go_simp;go_fit (zd5 _ W (hv.mono hb) (hE.mono hb));rintro e w1⟨rfl,hb1⟩
     try dsimp only
     exact d6
    case he=>
     rintro T W hb hA;have f10:T 23=.bool true:=hA.at 10 dM;simp only[sA,f10];have hbw:=bu hbw hb;clear hA f10;exact cZ
   |some x=>
    have hv:zad wc (qA J1 ao1 n1 Y1 K1 ap1 m1 Z1) x:=hv;have HC0:=hii hv.cr01.1;obtain⟨cc,hcc⟩:∃c,Rq.cmpQ x 0=c:=⟨_,rfl⟩;have Hcc:=hii hcc;clear hcc;refine zae (wx:=wc) [vf (pT g5 2),vf (.agg #[.bool J1,.slice ao1 n1 Y1,.bool K1,.slice ap1 m1 Z1]),vf (.bool true),vf bF_,vf bF_,vf (pT g5 2),vf (.agg #[.bool J1,.slice ao1 n1 Y1,.bool K1,.slice ap1 m1 Z1]),(λW v=>zad W v 0),vf (.int .i64 cc),vf (.bool (decide (cc<0))),vf (.bool (decide (cc<0)))] [13,14,15,16,17,18,19,20,21,22,23] br ⟨sV _,sV _,sV _,sV _,sV _,sV _,sV _,(λ_ _ _ h hb=>h.mono hb),sV _,sV _,sV _,trivial⟩ ⟨tV,?s1,?s2,tV,tV,tV,?s6,?s7,?s8,tV,tV,trivial⟩ ?he
    case' s1|s2|s6|s7|s8=>
     rintro T W hb hA K hK;simp only[yA,Region.binds]at hA;simp only[sA,hA]at hK|-
    case' s1|s2|s6|s7=>
     have HK:=hii hK;clear hK hA
    case s1|s6=>
     have h9:=r5.below hb;obtain⟨k0,k1,k2,k3,k4,k5⟩:=h9.n6;exact cH
    case s2=>
     refine wO rfl ?_;go_simp;go_fit (zay _ x W (hv.mono hb) (hE.mono hb));rintro e w1⟨rfl,hb1⟩
     try dsimp only
     exact d6
    case s7=>
     refine wO rfl ?_;go_simp;go_fit (zaK 0 dM dM W (hE.mono hb));rintro e w1⟨hz,hb1⟩;obtain⟨J7,ao7,n7,Y7,K7,ap7,m7,Z7,rfl,hV7⟩:=hz.rat;have hV7:zad w1 (qA J7 ao7 n7 Y7 K7 ap7 m7 Z7) 0:=hV7
     try dsimp only
     exact dY
    case s8=>
     have r7:=hA.2.1;have HK:=hii hK;clear hK hA;have r7:zad W _ 0:=r7;obtain⟨J6,ao6,n6,Y6,K6,ap6,m6,Z6,e7⟩:=r7.parts;rw[e7]at r7;simp only[e7]at HK|-;refine wO rfl ?_;go_simp;go_fit (za3 _ _ x 0 W (hv.mono hb) r7 HC0 (hE.mono hb));rw[Hcc.o];rintro e w1⟨rfl,hb1⟩
     try dsimp only
     exact d6
    case he=>
     rintro T W hb hA;have f10:T 23=.bool (decide (cc<0)):=hA.at 10 dM;simp only[sA,f10];have hbw:=bu hbw hb;have hv:=hv.mono hb;have hS:=hS.mono hb;have hE:=hE.mono hb;have r5:=r5.below hb;clear hA f10 hb;obtain⟨wd,rfl⟩:=exi W;have hlt9:=zlu x 0;rw[Hcc.o]at hlt9
     by_cases hx0:x<0
     ·have hd:decide (cc<0)=true:=by rw[hlt9];exact decide_eq_true hx0
      have HE1:Hid (E=1):=hii (by rw[<-HE.o];unfold zav;rw[if_pos (List.any_eq_true.2 ⟨some x,HM.o,decide_eq_true hx0⟩)]);rw[hd];clear HE HM HT hlt9;exact cZ
     ·have hd:decide (cc<0)=false:=by rw[hlt9];exact decide_eq_false hx0
      have HB2:Hid (((L.take (k+1)).map (·.2)).any ziM=false):=hii (by rw[HT.o,List.any_append,HB.o];simp[ziM,hx0]);have HS2:Hid (sumO (((L.take (k+1)).map (·.2)).map zeb)=znh (sumO (((L.take k).map (·.2)).map zeb)) x):=hii (by rw[HT.o,List.map_append];exact zcO _ _);rw[hd];clear hlt9 hd HB HM HT;obtain⟨k0,k1,k2,k3,k4,k5⟩:=r5.n6;go_wp2_with fail;go_fit (znf g _ x _ wd hS hv hE);rintro e we⟨rfl,hS2,hk2⟩;rw[<-HS2.o]at hS2;have hbw:=hbw.trans (hk2.below (λb e=>by rw[e];exact hg) hbw.size);clear k0 k1 k2 k3 k4 k5 hk2 r5;go_wp2;go_roundw
      case rel=>exact⟨k+1,oM,gM,hS2,HB2,hbw⟩
      case measure=>exact mM
  ·have hkN:k=N:=oM;rw[hkN,List.take_of_length_le (by rw[HN.o];exact nl)]at hS HB;have hk2:¬(k:Int)<(N:Int):=oM;have hEr:=hE.mono hbw;obtain⟨o,ho⟩:∃o,sumO ((L.map (·.2)).map zeb)=o:=⟨_,rfl⟩;rw[ho]at hS;have HE2:Hid (E=zjB o):=hii (by rw[<-HE.o];unfold zav;rw[if_neg (by rw[HB.o];simp),ho]);clear HE HB ho hkN hlt
   cases o with
   |none=>
    have HE1:Hid (E=3):=HE2;have hS:zcq wr g 3 0:=hS;obtain⟨J2,ao2,n2,Y2,K2,ap2,m2,Z2,rS,-⟩:=hS;obtain⟨k0,k1,k2,k3,k4⟩:=rS.n5;clear HE2;exact cZ
   |some t=>
    have HE1:Hid (E=if t=1 then 0 else 1):=HE2;have hS:zcq wr g 0 t:=hS;obtain⟨J2,ao2,n2,Y2,K2,ap2,m2,Z2,rS,hVS⟩:=hS;have hVS:=hVS rfl;have HC1:=hii hVS.cr01.2;obtain⟨cc,hcc⟩:∃c,Rq.cmpQ t 1=c:=⟨_,rfl⟩;have Hcc:=hii hcc;clear hcc HE2;obtain⟨k0,k1,k2,k3,k4⟩:=rS.n5;go_upto_region 11 with fail;clear k0 k1 k2 k3 k4 hk2;obtain⟨wc,rfl⟩:=exi wr;refine zae (wx:=wc) [vf (pT g 0),vf (pT g 0),vf (pT g 0),vf (.agg #[.bool J2,.slice ao2 n2 Y2,.bool K2,.slice ap2 m2 Z2]),(λW v=>zad W v 1),vf (.int .i64 cc),vf (.bool (cc != 0))] [38,39,40,41,42,43,44] br ⟨sV _,sV _,sV _,sV _,(λ_ _ _ h hb=>h.mono hb),sV _,sV _,trivial⟩ ⟨tV,tV,tV,?s3,?s4,?s5,tV,trivial⟩ ?he
    case' s3|s4|s5=>
     rintro T W hb hA K hK;simp only[yA,Region.binds]at hA;simp only[sA,hA]at hK|-
    case' s3|s4=>
     have HK:=hii hK;clear hK hA
    case s3=>
     have h9:=rS.below hb;obtain⟨k0,k1,k2,k3,k4⟩:=h9.n5;exact cH
    case s4=>
     refine wO rfl ?_;go_simp;go_fit (zaK 1 dM dM W (hEr.mono hb));rintro e w1⟨hz,hb1⟩;obtain⟨J7,ao7,n7,Y7,K7,ap7,m7,Z7,rfl,hV7⟩:=hz.rat;have hV7:zad w1 (qA J7 ao7 n7 Y7 K7 ap7 m7 Z7) 1:=hV7
     try dsimp only
     exact dY
    case s5=>
     have r4:=hA.2.1;have HK:=hii hK;clear hK hA;have r4:zad W _ 1:=r4;obtain⟨J6,ao6,n6,Y6,K6,ap6,m6,Z6,e4⟩:=r4.parts;rw[e4]at r4;simp only[e4]at HK|-;refine wO rfl ?_;go_simp;go_fit (za3 _ _ t 1 W (hVS.mono hb) r4 HC1 (hEr.mono hb));rw[Hcc.o];rintro e w1⟨rfl,hb1⟩
     try dsimp only
     exact d6
    case he=>
     rintro T W hb hA;have f6:T 44=.bool (cc != 0):=hA.at 6 dM;simp only[sA,f6];have hbw:=bu hbw hb;clear hA f6 hb;have hne:=zm2 t 1;rw[Hcc.o]at hne
     by_cases ht:t=1
     ·have HE3:Hid (E=0):=hii (by rw[HE1.o,if_pos ht]);rw[hne,decide_eq_true ht];clear HE1 hne;exact dH
     ·have HE3:Hid (E=1):=hii (by rw[HE1.o,if_neg ht]);rw[hne,decide_eq_false ht];clear HE1 hne;exact dH
end Go.Proofs.YtfgffkmddanjjaaGreatDoor
