/-
  As wp_region_use; one operation uses up a fact and writes nothing (a slice that is built of a value).
-/
import Derived.Test.YtfgffkmddanjjaaGreatDoorOQ
import Derived.Test.YtfgffkmddanjjaaGreatDoorDuS
import Derived.Maps.AppendAt
import Derived.Test.YtfgffkmddanjjaaGreatDoorQ5
set_option linter.unusedVariables false
set_option linter.unusedSimpArgs false
set_option maxRecDepth 100000
set_option maxHeartbeats 25600000
namespace Go.Proofs.YtfgffkmddanjjaaGreatDoor
open _root_.Go.Proofs.Tryz
open Go.RowKit
variable {l:List Qo} {xs:List Vl} {e g i j k:Nat} {bs:Nat->Nat} {L:Nat->Nat->Rat} {G:Nat->Prop} {ao:OA} {v v' vA vB vC:Vl} {W W' w':Wo}
theorem zah.of_grown{w:Wo}{row:Option Nat}(h:w.grownBy w' row):zah (λk=>row=some k) w w' :=
 ⟨h.os,h.tape,h.output,h.size,λk hk hg=>h.block k hk λe=>hg e.symm⟩
structure Grw(W W':Wo)(v v':Vl):Prop where
 grown:W.grownBy W' v.ownBlock
 noi:NoI W v
 new:v'.ownBlock=v.ownBlock\/v'.ownBlock=some W.heap.size
theorem Grw.kept(h:Grw W W' v v'):zah (λk=>v.ownBlock=some k) W W':=.of_grown h.grown
theorem Grw.noG(h:Grw W W' v v'):NoG (λk=>v.ownBlock=some k) W:=λg hg cur t fr hc=>h.noi g hg cur t fr hc
def Sep(u v:Vl):Prop:=∀b,u.ownBlock=some b->v.ownBlock≠some b
theorem Sep.symm{u:Vl}(h:Sep u v):Sep v u:=λb hv hu=>h b hu hv
theorem Sep.grw{u:Vl}(h:Sep u v)(hu:∀b,u.ownBlock=some b->b<W.heap.size)(g:Grw W W' v v'):Sep u v':=by
 intro b hb;rcases g.new with e|e
 ·rw[e];exact h b hb
 ·rw[e];intro e2;have:=hu b hb;simp only[Option.some.injEq]at e2;omega
theorem zce(v:Vl):Sep nS_ v:=λb h=>by simp[Value.ownBlock]at h
def zee(W:Wo)(xs:List Vl)(v:Vl):Prop:=∀x∈xs,(∀b,x.ownBlock=some b->b<W.heap.size)/\Sep x v
theorem zee.nil(W:Wo)(v:Vl):zee W [] v:=λx h=>by simp at h
theorem zee.mono(h:zee W xs v)(hs:W.heap.size<=W'.heap.size):zee W' xs v :=
 λx hx=>⟨λb hb=>Nat.lt_of_lt_of_le ((h x hx).1 b hb) hs,(h x hx).2⟩
theorem zee.grw(h:zee W xs v)(g:Grw W W' v v'):zee W' xs v' :=
 λx hx=>⟨λb hb=>Nat.lt_of_lt_of_le ((h x hx).1 b hb) g.grown.size,(h x hx).2.grw (h x hx).1 g⟩
theorem zee.snoc{x:Vl}(h:zee W xs v)(hx:∀b,x.ownBlock=some b->b<W.heap.size)(hs:Sep x v):zee W (xs++[x]) v:=by
 intro y hy;rcases List.mem_append.1 hy with hy|hy
 ·exact h y hy
 ·simp at hy;subst hy;exact⟨hx,hs⟩
theorem zaZ{w:Wo}{B size n:Nat}(h:w.ownsRow B e size v n xs)(hk:zah G w w')(hv:∀b,v.ownBlock=some b->¬G b):w'.ownsRow B e size v n xs:=by
 refine⟨h.1,h.2.imp id ?_⟩;rintro⟨g,cap,cur,rfl,hB,hg,r⟩;exact⟨g,cap,cur,rfl,hB,hk.heap hg (hv g rfl),r⟩
theorem NoI.kept{w:Wo}{B size n:Nat}(hn:NoI w v)(h:w.ownsRow B e size v n xs)(hk:zah G w w')(hv:∀b,v.ownBlock=some b->¬G b):NoI w' v:=by
 intro g hg cur t fr hc;have hlt:=(h.lt g hg).2;exact hn g hg cur t fr ((hk.block g hlt (hv g hg)).symm.trans hc)
theorem zaI.kept{w:Wo}{B:Nat}(h:zaI w B v l)(hk:zah G w w')(hp:NoG G w)(hv:∀b,v.ownBlock=some b->¬G b):zaI w' B v l:=by
 obtain⟨xs,h1,h2,h3⟩:=h;exact⟨xs,zaZ h1 hk hv,h2.kept h1 hk hv,λi o hi=>(h3 i o hi).kept hk hp⟩
theorem zaI.lt{w:Wo}{B:Nat}(h:zaI w B v l):∀b,v.ownBlock=some b->B<=b/\b<w.heap.size:=by
 obtain⟨xs,h1,_⟩:=h;exact h1.lt
def zhe(w:Wo)(B:Nat)(v:Vl)(xs:List Vl):Prop:=zgr w B v xs/\NoI w v
theorem zhe.nil(w:Wo)(B:Nat):zhe w B nS_ []:=⟨World.ownsRow_nil _ _ _ _,λg hg=>by simp[Value.ownBlock]at hg⟩
theorem zhe.kept{w:Wo}{B:Nat}(h:zhe w B v xs)(hk:zah G w w')(hv:∀b,v.ownBlock=some b->¬G b):zhe w' B v xs :=
 ⟨zaZ h.1 hk hv,h.2.kept h.1 hk hv⟩
theorem zhe.lt{w:Wo}{B:Nat}(h:zhe w B v xs):∀b,v.ownBlock=some b->B<=b/\b<w.heap.size:=World.ownsRow.lt h.1
theorem zbs.kept{w:Wo}{rows:List (List Qo)}(h:zbs w xs rows)(hk:zah G w w')(hp:NoG G w)(hv:∀x∈xs,∀b,x.ownBlock=some b->¬G b):zbs w' xs rows:=by
 refine⟨h.1,λi row hi=>?_⟩;obtain⟨ar,cr,e,hq⟩:=h.2 i row hi;refine⟨ar,cr,e,hq.kept hk hp ?_⟩;rintro a rfl;exact hv _ (List.mem_of_getElem? e) a.block rfl
theorem zbs.snoc{w:Wo}{rows:List (List Qo)}{a:List Qo}{aa:OA}{ca:Nat}(h:zbs w xs rows)(ha:UQ w aa a) :
  zbs w (xs++[.slice aa a.length ca]) (rows++[a]):=by
 refine⟨by simp[h.1],λi row hi=>?_⟩;rcases Nat.lt_or_ge i rows.length with hl|hl
 ·rw[List.getElem?_append_left hl]at hi;obtain⟨ar,cr,e,hq⟩:=h.2 i row hi;exact⟨ar,cr,by rw[List.getElem?_append_left (by rw[h.1];exact hl)];exact e,hq⟩
 ·rw[List.getElem?_append_right hl]at hi;have hx:=h.1
  match hj:i-rows.length,hi with
  |0,hi=>
   simp at hi;subst hi;exact⟨aa,ca,by rw[List.getElem?_append_right oM,show i-xs.length=0 by omega];rfl,ha⟩
  |j+1,hi=>simp at hi
theorem zfQ(w W:Wo)(ty:TypeId)(B:Nat)(v:Vl)(xs:List Vl)(ar:OA)(n cr bx c:Nat)(hown:zhe w B v xs)(hB:B<=w.heap.size)(hb:Below B W w)
  (hc:w.cell? (aD_ bx 0)=some (.slice ar n cr))(hl:xs.length<=1000000) :
  ∃v' w',(Builtin.append_ #[103,103] ty #[v,.slice (sD bx 0) 1 c]).run Tryz.prog w=.ok v' w'/\zhe w' B v' (xs++[.slice ar n cr])/\Below B W w'/\Grw w w' v v':=by
 obtain⟨i0,hi,hz0,hz1,hz2⟩:=info_parts Tryz.info33;have hn:∀(j:Nat)(u:Vl),[Value.slice ar n cr][j]?=some u->w.cell? ((⟨bx,0,none⟩:Addr).add j)=some u:=by
  intro j u hj
  match j,hj with
  |0,hj=>simp at hj;subst hj;simpa [Addr.add]using hc
  |j+1,hj=>simp at hj
 have h1:∀u∈[Value.slice ar n cr],u.oneCell'=true:=by intro u hu;simp at hu;subst hu;rfl
 obtain⟨v',w',hr,h3,h4,h5⟩:=zcx (P:=Tryz.prog) w B 103 ty 33 i0 nS_ Tryz.underlying103 hi hz0 (by rw[hz1];rfl) (by rw[hz1];decide) v xs.length xs (by rw[hz1];exact hown.1) hown.2 ⟨bx,0,none⟩ 1 c [.slice ar n cr] (by rw[hz1];rfl) hn h1 (by unfold maxLen;omega) (by rw[hz2];omega) hB oM
  (by intro u hu k z e;simp[Value.cells]at hu;subst hu;cases e) (by intro u hu k z e;simp at hu;subst hu;cases e)
 obtain⟨v2,w2,hr2,_,_,_,hat⟩:=run_append_own_at (P:=Tryz.prog) w B 103 ty 33 i0 nS_ i0.size i0.bytes Tryz.underlying103 hi hz0 rfl rfl (by rw[hz1];rfl) (by rw[hz1];decide) v xs.length xs (by rw[hz1];exact hown.1) ⟨bx,0,none⟩ 1 c [.slice ar n cr] (by rw[hz1];rfl) hn h1 (by unfold maxLen;omega) (by rw[hz2];omega) hB;have he:=hr.symm.trans hr2;simp only[Result.ok.injEq]at he;obtain⟨rfl,rfl⟩:=he;refine⟨v',w',hr,⟨?_,h5⟩,hb.grown h4 hB λk hk=>(hown.1.lt k hk).1,⟨h4,hown.2,hat⟩⟩;unfold zgr;rw[List.length_append];rw[hz1]at h3;exact h3
theorem zcf(w W:Wo)(ty:TypeId)(B:Nat)(v:Vl)(l:List Qo)(o:Qo)(ao:OA)(c:Nat)(hown:zaI w B v l)(hB:B<=w.heap.size)(hb:Below B W w)(hm:UQ w ao [o])(hl:l.length<=100000) :
  ∃v' w',(Builtin.append_ #[33,33] ty #[v,.slice ao 1 c]).run Tryz.prog w=.ok v' w'/\zaI w' B v' (l++[o])/\Below B W w'/\Grw w w' v v':=by
 obtain⟨v',w',hr,h1,h2,h3,h4⟩:=zep w W ty B v l [o] ao c hown hB hb hm sM (by simp;omega);obtain⟨xs,hrow,hno,hel⟩:=hown;obtain⟨b,off,m1,b1,k1,d1,m2,b2,k2,d2,rfl,hf,hq⟩:=hm 0 o rfl;obtain⟨i0,hi,hz0,hz1,hz2⟩:=info_parts Tryz.info32;have hn:∀(j:Nat)(u:Vl),[Value.bool m1,.slice b1 k1 d1,.bool m2,.slice b2 k2 d2][j]?=some u->w.cell? ((⟨b,off,none⟩:Addr).add j)=some u:=by
  intro j u hj;have ha:∀j,(⟨b,off,none⟩:Addr).add j=⟨b,off+j,none⟩:=by
   intro j;unfold Addr.add;split
   ·subst j;rfl
   ·rfl
  rw[ha]
  match j,hj with
  |0,hj=>simp at hj;subst hj;exact hf.c0
  |1,hj=>simp at hj;subst hj;exact hf.c1
  |2,hj=>simp at hj;subst hj;exact hf.c2
  |3,hj=>simp at hj;subst hj;exact hf.c3
  |j+4,hj=>simp at hj
 obtain⟨v2,w2,hr2,_,_,_,hat⟩:=run_append_own_at (P:=Tryz.prog) w B 33 ty 32 i0 (.agg #[bF_,nS_,bF_,nS_]) i0.size i0.bytes Tryz.underlying33 hi hz0 rfl rfl (by rw[hz1];rfl) (by rw[hz1];decide) v l.length xs (by rw[hz1];exact hrow) ⟨b,off,none⟩ 1 c [.bool m1,.slice b1 k1 d1,.bool m2,.slice b2 k2 d2] (by rw[hz1];rfl) hn (by intro u hu;simp at hu;rcases hu with rfl|rfl|rfl|rfl<;>rfl) (by unfold maxLen;omega) (by rw[hz2];omega) hB;have he:=hr.symm.trans hr2;simp only[Result.ok.injEq]at he;obtain⟨rfl,rfl⟩:=he;exact⟨v',w',hr,h1,h2,⟨h4,hno,hat⟩⟩
def zoE(B:Nat)(xs:List Vl):Prop:=∀x∈xs,∀b,x.ownBlock=some b->B<=b
theorem zoE.snoc{B:Nat}{x:Vl}(h:zoE B xs)(hx:∀b,x.ownBlock=some b->B<=b):zoE B (xs++[x]):=by
 intro y hy;rcases List.mem_append.1 hy with hy|hy
 ·exact h y hy
 ·simp at hy;subst hy;exact hx
structure MS(W:Wo)(B:Nat)(vA vB vC:Vl)(rows:List (List Qo))(lb lc:List Qo):Prop where
 ex:∃xs,zhe W B vA xs/\zbs W xs rows/\zee W xs vA/\zee W xs vB/\zee W xs vC/\zoE B xs
 b:zaI W B vB lb
 c:zaI W B vC lc
 ab:Sep vA vB
 ac:Sep vA vC
 bc:Sep vB vC
theorem MS.nil(W:Wo)(B:Nat):MS W B nS_ nS_ nS_ [] [] [] :=
 ⟨⟨[],zhe.nil _ _,⟨rfl,λi row h=>by simp at h⟩,zee.nil _ _,zee.nil _ _,zee.nil _ _,λx h=>by simp at h⟩,zaI.nil _ _,zaI.nil _ _,zce _,zce _,zce _⟩
section
variable {W W' : Wo} {B : Nat} {vA vB vC : Vl} {rows : List (List Qo)} {lb lc : List Qo}
theorem MS.kept{G:Nat->Prop}(h:MS W B vA vB vC rows lb lc)(hk:zah G W W')(hp:NoG G W)(hG:∀b,G b->b<B):MS W' B vA vB vC rows lb lc:=by
 obtain⟨⟨xs,h1,h2,h3,h4,h5,h6⟩,hb,hc,ab,ac,bc⟩:=h;have out:∀(b:Nat),B<=b->¬G b:=λb hb hg=>by have:=hG b hg;omega
 refine⟨⟨xs,h1.kept hk (λb e=>out b (h1.lt b e).1),h2.kept hk hp ?_,h3.mono hk.size,h4.mono hk.size,h5.mono hk.size,h6⟩,hb.kept hk hp (λb e=>out b (hb.lt b e).1),hc.kept hk hp (λb e=>out b (hc.lt b e).1),ab,ac,bc⟩;exact λx hx b e=>out b (h6 x hx b e)
theorem MS.mono(h:MS W B vA vB vC rows lb lc)(hb:BH W W'):MS W' B vA vB vC rows lb lc:=by
 obtain⟨⟨xs,h1,h2,h3,h4,h5,h6⟩,hB,hC,ab,ac,bc⟩:=h;have hk:zah (λ_=>False) W W':=.of_below hb;exact⟨⟨xs,h1.kept hk (λ_ _ h=>h),h2.mono hb,h3.mono hb.size,h4.mono hb.size,h5.mono hb.size,h6⟩,hB.mono hb,hC.mono hb,ab,ac,bc⟩
theorem MS.growC{vC':Vl}{lc':List Qo}(h:MS W B vA vB vC rows lb lc)(g:Grw W W' vC vC')(hn:zaI W' B vC' lc'):MS W' B vA vB vC' rows lb lc':=by
 obtain⟨⟨xs,h1,h2,h3,h4,h5,h6⟩,hB,hC,ab,ac,bc⟩:=h;have la:=λb e=>(h1.lt b e).2
 have lB:=λb e=>(hB.lt b e).2
 exact⟨⟨xs,h1.kept g.kept (λb e=>ac b e),h2.kept g.kept g.noG (λx hx b e=>(h5 x hx).2 b e),h3.mono g.grown.size,h4.mono g.grown.size,h5.grw g,h6⟩,hB.kept g.kept g.noG (λb e=>bc b e),hn,ab,ac.grw la g,bc.grw lB g⟩
theorem MS.run_row(h:MS W B vA vB vC rows lb lc)(X:Wo)(ty:TypeId){row:List Qo}{ar:OA}{cr bx c:Nat}(hq:UQ W ar row)(hs:∀b,(Value.slice ar row.length cr).ownBlock=some b->B<=b/\b<W.heap.size/\vA.ownBlock≠some b/\vB.ownBlock≠some b/\vC.ownBlock≠some b)
  (hB:B<=W.heap.size)(hb:Below B X W)(hc:W.cell? (aD_ bx 0)=some (.slice ar row.length cr))(hl:rows.length<=1000000) :
  ∃v' w',(Builtin.append_ #[103,103] ty #[vA,.slice (sD bx 0) 1 c]).run Tryz.prog W=.ok v' w'/\MS w' B v' vB vC (rows++[row]) lb lc/\Below B X w'/\Grw W w' vA v':=by
 obtain⟨⟨xs,h1,h2,h3,h4,h5,h6⟩,hB',hC,ab,ac,bc⟩:=h;obtain⟨v',w',hr,k1,k2,g⟩:=zfQ W X ty B vA xs ar row.length cr bx c h1 hB hb hc (by rw[h2.1];exact hl);have lB:=λb e=>(hB'.lt b e).2
 have lC:=λb e=>(hC.lt b e).2
 have ha:∀a,ar=some a->¬vA.ownBlock=some a.block:=by rintro a rfl;exact(hs a.block rfl).2.2.1
 have hs':∀b,(Value.slice ar row.length cr).ownBlock=some b->b<w'.heap.size:=λb e=>Nat.lt_of_lt_of_le (hs b e).2.1 g.grown.size
 have hsv:Sep (.slice ar row.length cr) v':=Sep.grw (W:=W) (λb e=>(hs b e).2.2.1) (λb e=>(hs b e).2.1) g;refine⟨v',w',hr,⟨⟨_,k1,(h2.kept g.kept g.noG (λx hx b e=>(h3 x hx).2 b e)).snoc (hq.kept g.kept g.noG ha),(h3.grw g).snoc hs' hsv,(h4.mono g.grown.size).snoc hs' (λb e=>(hs b e).2.2.2.1),(h5.mono g.grown.size).snoc hs' (λb e=>(hs b e).2.2.2.2),h6.snoc (λb e=>(hs b e).1)⟩,
  hB'.kept g.kept g.noG (λb e=>ab.symm b e),hC.kept g.kept g.noG (λb e=>ac.symm b e),(ab.symm.grw lB g).symm,(ac.symm.grw lC g).symm,bc⟩,k2,g⟩
theorem MS.prg(h:MS W B vA vB vC rows lb lc):zoz W (.agg #[vA,vB,vC]) ⟨rows,lb,lc⟩:=by
 obtain⟨⟨xs,h1,h2,_⟩,hB,hC,_⟩:=h;obtain⟨aA,cA,rfl,uA⟩:=h1.1.um h2;obtain⟨aB,cB,rfl,uB⟩:=hB.read;obtain⟨aC,cC,rfl,uC⟩:=hC.read;exact⟨aA,cA,aB,cB,aC,cC,rfl,uA,uB,uC⟩
theorem MS.lts(h:MS W B vA vB vC rows lb lc):(∀b,vA.ownBlock=some b->B<=b/\b<W.heap.size)/\(∀b,vB.ownBlock=some b->B<=b/\b<W.heap.size)/\(∀b,vC.ownBlock=some b->B<=b/\b<W.heap.size):=by
 obtain⟨⟨xs,h1,_⟩,hB,hC,_⟩:=h;exact⟨h1.lt,hB.lt,hC.lt⟩
end
def UK(k:IntKind)(w:Wo)(ao:OA)(l:List Int):Prop:=∀i z,l[i]?=some z->∃b off,ao=sD b off/\w.cell? ⟨b,off+i,none⟩=some (.int k z)
theorem UK.mono{k:IntKind}{w:Wo}{l:List Int}(h:UK k w ao l)(hb:BH w w'):UK k w' ao l:=by
 intro i s hi;obtain⟨b,off,e,hc⟩:=h i s hi;exact eG
def UR(w:Wo)(ao:OA)(rows:List (List Int)):Prop:=∀i row,rows[i]?=some row->∃b off ar cr,ao=sD b off/\w.cell? ⟨b,off+i,none⟩=some (.slice ar row.length cr)/\UK .i8 w ar row
theorem UR.mono{w:Wo}{rows:List (List Int)}(h:UR w ao rows)(hb:BH w w'):UR w' ao rows:=by
 intro i row hi;obtain⟨b,off,ar,cr,e,hc,hk⟩:=h i row hi;exact⟨b,off,ar,cr,e,(hb.cell (zaf hc)).trans hc,hk.mono hb⟩
def PB(W:Wo)(g:Nat)(vA vB vC:Vl)(rows:List (List Qo))(lb lc:List Qo):Prop:=Row W g 105 [vA,vB,vC]/\MS W (g+1) vA vB vC rows lb lc/\zaJ vA/\zaJ vB/\zaJ vC
theorem PB.mono{rows:List (List Qo)}{lb lc:List Qo}(h:PB W g vA vB vC rows lb lc)(hb:BH W W'):PB W' g vA vB vC rows lb lc :=
 ⟨h.1.below hb,h.2.1.mono hb,h.2.2⟩
theorem zaN(a:OA)(n c:Nat):zaJ (.slice a n c):=λk z e=>by cases e
theorem zdR{w:Wo}{B s n:Nat}(h:w.ownsRow B e s v n xs):zaJ v:=by
 intro k z e;subst e;rcases h.2 with⟨h,_⟩|⟨_,_,_,h,_⟩<;>cases h
theorem MS.noInt{B:Nat}{rows:List (List Qo)}{lb lc:List Qo}(h:MS W B vA vB vC rows lb lc):zaJ vA/\zaJ vB/\zaJ vC:=by
 obtain⟨⟨xs,h1,_⟩,⟨_,h2,_⟩,⟨_,h3,_⟩,_⟩:=h;exact⟨zdR h1.1,zdR h2,zdR h3⟩
theorem zdP{w:Wo}{B s n:Nat}(h:w.ownsRow B e s v n xs):∃a n c,v=.slice a n c:=by
 rcases h.2 with⟨h,_⟩|⟨_,_,_,h,_⟩
 ·exact⟨_,_,_,h⟩
 ·exact⟨_,_,_,h⟩
theorem MS.slices{B:Nat}{rows:List (List Qo)}{lb lc:List Qo}(h:MS W B vA vB vC rows lb lc):(∃a n c,vA=.slice a n c)/\(∃a n c,vB=.slice a n c)/\∃a n c,vC=.slice a n c:=by
 obtain⟨⟨xs,h1,_⟩,⟨_,h2,_⟩,⟨_,h3,_⟩,_⟩:=h;exact⟨zdP h1.1,zdP h2,zdP h3⟩
theorem Row.grw{E:TypeId}(h:Row W g E xs)(gr:Grw W W' v v')(hv:∀b,v.ownBlock=some b->g+1<=b):Row W' g E xs :=
 h.mono gr.kept λe=>by have:=hv g e;omega
section
variable {ops : Array Oper} {rest : List Oper} {o : Oper} {a : Act} {Q : Exit → Act → Wo → Prop}
theorem zfD{w:Wo}{n1:Bool}{a1:OA}{l1 c1:Nat}{n2:Bool}{a2:OA}{l2 c2:Nat}{q:Rat}(hr:zad w (qA n1 a1 l1 c1 n2 a2 l2 c2) q) :
  UQ (w.alloc (.cells #[.bool n1,.slice a1 l1 c1,.bool n2,.slice a2 l2 c2] 32)) (some ⟨w.heap.size,0,none⟩) [some q]:=by
 have r:Row (w.alloc (.cells #[.bool n1,.slice a1 l1 c1,.bool n2,.slice a2 l2 c2] 32)) w.heap.size 32 [.bool n1,.slice a1 l1 c1,.bool n2,.slice a2 l2 c2]:=heap_alloc_new _ _;intro i o hi
 match i,hi with
 |0,hi=>
  simp at hi;subst hi;exact⟨_,0,n1,a1,l1,c1,n2,a2,l2,c2,rfl,⟨r.n4.1,r.n4.2.1,r.n4.2.2.1,r.n4.2.2.2,trivial,trivial,trivial,trivial⟩,hr.mono (bA _ _)⟩
 |i+1,hi=>simp at hi
theorem zh7(w W:Wo){n1:Bool}{a1:OA}{l1 c1:Nat}{n2:Bool}{a2:OA}{l2 c2:Nat}{q:Rat}(hgd:o.guard=none)(s x:Operand)(ho:o.op=.call {callee:=.builtin .append,args:=#[s,x],argTypes:=#[33,33]})
  (B:Nat)(v:Vl)(l:List Qo)(hs:a.eval s=v)(hown:zaI w B v l)(hB:B<=w.heap.size)(hb:Below B W w)(hr:zad w (qA n1 a1 l1 c1 n2 a2 l2 c2) q)
  (hx:a.eval x=.slice (some ⟨w.heap.size,0,none⟩) 1 1)(hl:l.length<=100000)
  (hK:∀v' w',zaI w' B v' (l++[some q])->Below B W w'->wpList Tryz.prog ops Q rest (a.put o.dst v') w') :
  wpList Tryz.prog ops Q (o :: rest) a (w.alloc (.cells #[.bool n1,.slice a1 l1 c1,.bool n2,.slice a2 l2 c2] 32)):=by
 have hba:=bA w (.cells #[.bool n1,.slice a1 l1 c1,.bool n2,.slice a2 l2 c2] 32);have hsz:=hba.size;obtain⟨v',w',hr',h1,h2,_⟩:=zcf _ W o.type B v l (some q) _ 1 (hown.mono hba) oM (hb.alloc hB _) (zfD hr) hl;refine wpList_plain hgd λK hK'=>?_
 unfold Oper.wp;simp[execOp,ho,resolve,invoke,builtin,hs,hx,hr',Result.andThen];exact hK' _ _ (hK v' w' h1 h2)
end
section
variable {P : Program} {ops : Array Oper} {Q : Exit → Act → Wo → Prop}
def zgq(G:Nat->Prop)(F:FW):Prop:=∀(W W':Wo)(v:Vl),F W v->zah G W W'->F W' v
theorem zab(G:Nat->Prop)(u:Vl):zgq G (vf u):=λ_ _ _ h _=>h
def ziT(G:Nat->Prop):List (FW)->Prop
 |[]=>True
 |F :: r=>zgq G F/\ziT G r
theorem ziT.get{G:Nat->Prop}:∀{l:List (FW)} (k:Nat),ziT G l->zgq G (l.getD k λ_ _=>True)
 |[],_,_=>λ_ _ _ _ _=>trivial
 |_ :: _,0,h=>h.1
 |_ :: r,k+1,h=>ziT.get (l:=r) k h.2
def zcr(Fs:List (FW))(ds:List (Option Nat))(T:Nat->Vl)(W:Wo):LN->Prop
 |[]=>True
 |k :: r=>(Fs.getD k λ_ _=>True) W (dv ds T k)/\zcr Fs ds T W r
theorem yC:(∀Fs ds T W,zcr Fs ds T W []=True)/\(∀Fs ds T W k r,zcr Fs ds T W (k::r)=((Fs.getD k λ_ _=>True) W (dv ds T k)/\zcr Fs ds T W r)):=⟨λ_ _ _ _=>rfl,λ_ _ _ _ _ _=>rfl⟩
theorem tP{p:Prop}(h:p:=by rintro T W hk hp hA K hK;simp only[yA,yB,yC,Region.binds]at hA;simp only[sA,hA]at hK|-;have HK:=hii hK;clear hK hA;refine wO rfl ?_;go_simp;exact HK.o _ _ ⟨λ_=>br,λh=>absurd h dM,zah.refl _⟩ rfl):p:=h
theorem zcr.mem{Fs:List (FW)}{ds:List (Option Nat)}{T:Nat->Vl}{W:Wo}:∀{l:LN},(∀k∈l,(Fs.getD k λ_ _=>True) W (dv ds T k))->zcr Fs ds T W l
 |[],_=>trivial
 |k :: r,h=>⟨h k sM,zcr.mem λx hx=>h x (by simp[hx])⟩
theorem zcr.at{Fs:List (FW)}{ds:List (Option Nat)}{T:Nat->Vl}{W:Wo}:∀{l:LN} (k:Nat),zcr Fs ds T W l->k∈l->(Fs.getD k λ_ _=>True) W (dv ds T k)
 |[],_,_,h=>by simp at h
 |x :: r,k,h,hk=>by
  rcases List.mem_cons.1 hk with rfl|hk
  ·exact h.1
  ·exact zcr.at k h.2 hk
theorem zbd{id:Nat}{a:Act}{w wx:Wo}(G:Nat->Prop)(Fs:List (FW))(ds:List (Option Nat))(dl:LN)(si:Nat)(P0 R:Wo->Prop)(hsi:si<ops.size)
 (hP0:P0 w.drew)(hPS:∀W W',P0 W->BH W W'->P0 W')(hRS:∀W W',R W->BH W W'->R W')
  (hw:zah G wx w)(hS:ziT G Fs)
  (hs:zaO (λi o=>∀(T:Nat->Vl)(W:Wo),zah G wx W->(i=si\/i∈zaP ops si->P0 W)->zcr Fs ds T W (zaV .any o) ->
   ∀K:Act->Wo->Prop,(∀v W',((i≠si->BH W W')/\(i=si->R W')/\zah G W W')->(Fs.getD i λ_ _=>True) W' ((o.dst.map λ_=>v).getD undef)->K (({a with tmps:=ovr a.tmps T dl}:Act).put o.dst v) W') ->
    wpOp P ops Q i K {a with tmps:=ovr a.tmps T dl} W) 0 ops.toList)
  (he:∀T W,zah G wx W->R W->zcr Fs ds T W (List.range ops.size)->Q .normal {a with tmps:=ovr a.tmps T dl} W)
  (hm:P.follows .mixedOrders=true:=by kernel_rfl) (ht:zkF .any ops=true:=by kernel_rfl) (hd:ops.toList.map (·.dst)=ds:=by kernel_rfl) (hdl:ds.filterMap (λx=>x)=dl:=by kernel_rfl) (hnd:dl.Nodup:=by exact of_decide_eq_true (by kernel_rfl)):(Code.region id ops true).wp P Q a w:=by
 have hnd':(ds.filterMap _root_.id).Nodup:=by
  have:ds.filterMap _root_.id=dl:=hdl;rw[this];exact hnd
 have hdst:∀(i:Nat)(o:Oper),ops[i]?=some o->i<ops.size/\o.dst=ds.getD i none:=by
  intro i o ho;have hi:i<ops.size:=(Array.getElem?_eq_some_iff.1 ho).1;refine⟨hi,?_⟩;have h1:(ops.toList.map (·.dst))[i]?=some o.dst:=by simp[ho]
  rw[hd]at h1;rw[List.getD_eq_getElem?_getD,h1];rfl
 have hwt:∀k o,ops[k]?=some o->zaP ops k=zaV .any o:=by
  intro k o ho;unfold zaP;rw[ho];rfl
 refine zb7 (λL T W=>zah G wx W/\(¬L si->P0 W)/\(L si->R W)/\(∀k,k<ops.size->L k->∀d∈zaP ops k,L d)/\∀k,k<ops.size->L k->(Fs.getD k λ_ _=>True) W (dv ds T k)) dl hm ht ?_ ⟨hw.drew,λ_=>hP0,λh=>h.elim,λk _ h=>h.elim,λk _ h=>h.elim⟩ ?_ ?_ ?_
 ·unfold znH;rw[<-hdl,<-hd];simp[List.filterMap_map]
  rfl
 ·have key:∀(l:List Oper)(k:Nat),(∀j o,l[j]?=some o->ops[k+j]?=some o) ->
    zaO (λi o=>∀(T:Nat->Vl)(W:Wo),zah G wx W->(i=si\/i∈zaP ops si->P0 W)->zcr Fs ds T W (zaV .any o) ->
     ∀K:Act->Wo->Prop,(∀v W',((i≠si->BH W W')/\(i=si->R W')/\zah G W W')->(Fs.getD i λ_ _=>True) W' ((o.dst.map λ_=>v).getD undef)->K (({a with tmps:=ovr a.tmps T dl}:Act).put o.dst v) W') ->
      wpOp P ops Q i K {a with tmps:=ovr a.tmps T dl} W) k l ->
    zaO (λi o=>∀(L:Nat->Prop)(T:Nat->Vl)(w:Wo),zea L (zaV .any o)->¬L i->(zah G wx w/\(¬L si->P0 w)/\(L si->R w)/\(∀k,k<ops.size->L k->∀d∈zaP ops k,L d)/\∀k,k<ops.size->L k->(Fs.getD k λ_ _=>True) w (dv ds T k)) ->
     ∀K:Act->Wo->Prop,(∀v w',(zah G wx w'/\(¬(si=i\/L si)->P0 w')/\((si=i\/L si)->R w')/\(∀k,k<ops.size->(k=i\/L k)->∀d∈zaP ops k,(d=i\/L d))/\∀k,k<ops.size->(k=i\/L k)->(Fs.getD k λ_ _=>True) w' (dv ds (zcw T o.dst v) k))->K (({a with tmps:=ovr a.tmps T dl}:Act).put o.dst v) w') ->
      wpOp P ops Q i K {a with tmps:=ovr a.tmps T dl} w) k l:=by
   intro l
   induction l with
   |nil=>intro k _ _;trivial
   |cons o r ih=>
    intro k hin h;refine⟨?_,ih (k+1) (λj o' ho=>by have:=hin (j+1) o' (by simpa using ho);rw[show k+1+j=k+(j+1) by omega];exact this) h.2⟩;rintro L T W hL hn⟨hb,hp,hr,hcl,hJ⟩K hK;have hko:ops[k]?=some o:=by simpa using hin 0 o rfl
    obtain⟨hkl,hkd⟩:=hdst k o hko;have hks:k<ops.size:=hkl;have hall:=zea.all hL;have hnsi:k=si\/k∈zaP ops si->¬L si:=by
     rintro(rfl|hk) hl
     ·exact hn hl
     ·exact hn (hcl si hsi hl k hk)
    refine h.1 T W hb (λe=>hp (hnsi e)) (zcr.mem λd hdw=>hJ d (Nat.lt_trans (zca ht hko hdw) hks) (hall d hdw)) K λv W' hst hv=>hK v W' ⟨hb.trans hst.2.2,?_,?_,?_,?_⟩
    ·intro hnp;exact hPS _ _ (hp λh=>hnp (.inr h)) (hst.1 λe=>hnp (.inl e.symm))
    ·rintro(e|hl)
     ·exact hst.2.1 e.symm
     ·by_cases e:k=si
      ·exact hst.2.1 e
      ·exact hRS _ _ (hr hl) (hst.1 e)
    ·rintro j hj (rfl|hLj) d hd
     ·rw[hwt _ _ hko]at hd;exact .inr (hall d hd)
     ·exact .inr (hcl j hj hLj d hd)
    ·rintro j hj hLj
     by_cases hjk:j=k
     ·subst hjk;have:dv ds (zcw T o.dst v) j=(o.dst.map λ_=>v).getD undef:=by
       unfold dv;rw[<-hkd]
       cases hdo:o.dst with
       |none=>rfl
       |some d=>simp[zcw,upd]
      rw[this];exact hv
     ·have hLj:L j:=hLj.resolve_left hjk;have hval:dv ds (zcw T o.dst v) j=dv ds T j:=by
       unfold dv
       cases hdj:ds.getD j none with
       |none=>rfl
       |some d=>
        cases hdo:o.dst with
        |none=>rfl
        |some d'=>
         have hne:d≠d':=λe=>by
          exact eN
         simp[zcw,upd,hne]
      rw[hval];exact ziT.get j hS _ _ _ (hJ j hj hLj) hst.2.2
  exact key ops.toList 0 (λj o ho=>by simpa using ho) hs
 ·rintro T W⟨hb,_,hr,_,hJ⟩;exact he T W hb (hr hsi) (zcr.mem λk hk=>hJ k (by simpa using hk) (by simpa using hk))
 ·rintro L T W hL⟨hb,hp,hr,hcl,hJ⟩;refine⟨hb,λh=>absurd hsi h,λ_=>hr (hL si hsi),λk hk _ d hd=>?_,λk hk _=>hJ k hk (hL k hk)⟩;obtain⟨o,ho⟩:∃o,ops[k]?=some o:=⟨ops[k],Array.getElem?_eq_getElem hk⟩;rw[hwt k o ho]at hd;exact Nat.lt_trans (zca ht ho hd) hk
end
def RK(G:Nat->Prop)(r:Rat)(W:Wo)(v:Vl):Prop:=∀W',zah G W W'->zad W' v r
theorem RK.stay{r:Rat}:zgq G (RK G r):=λW W' v h hk W'' hk'=>h W'' (hk.trans hk')
theorem RK.rat{r:Rat}(h:RK G r W v):zad W v r:=h W (zah.refl W)
theorem RK.at{r:Rat}(h:RK G r W v)(hk:zah G W W'):zad W' v r:=h W' hk
theorem zad.rk{r:Rat}(h:zad W v r)(hn:NoG G W):RK G r W v:=λW' hk=>h.kept hk hn
structure MX(W:Wo)(B:Nat)(vA:Vl)(rows:List (List Qo))(ow:List (Vl×List Qo)):Prop where
 ex:∃xs,zhe W B vA xs/\zbs W xs rows/\zee W xs vA/\zoE B xs/\∀p∈ow,zee W xs p.1
 o:∀p∈ow,zaI W B p.1 p.2/\Sep vA p.1
 s:ow.Pairwise λp q=>Sep p.1 q.1
theorem MX.nil(W:Wo)(B:Nat)(n:Nat):MX W B nS_ [] (List.replicate n (nS_,[])):=by
 refine⟨⟨[],zhe.nil _ _,⟨rfl,λi row h=>by simp at h⟩,zee.nil _ _,λx h=>by simp at h,λp _=>zee.nil _ _⟩,λp hp=>?_,?_⟩
 ·obtain⟨_,rfl⟩:=List.mem_replicate.1 hp;exact⟨zaI.nil _ _,zce _⟩
 ·exact List.pairwise_replicate.2 (.inr (zce _))
section
variable {W W' : Wo} {B : Nat} {vA : Vl} {rows : List (List Qo)} {ow : List (Vl × List Qo)}
theorem MX.kept{G:Nat->Prop}(h:MX W B vA rows ow)(hk:zah G W W')(hp:NoG G W)(hG:∀b,G b->b<B):MX W' B vA rows ow:=by
 obtain⟨⟨xs,h1,h2,h3,h4,h5⟩,ho,hs⟩:=h;have out:∀(b:Nat),B<=b->¬G b:=λb hb hg=>by have:=hG b hg;omega
 exact⟨⟨xs,h1.kept hk (λb e=>out b (h1.lt b e).1),h2.kept hk hp (λx hx b e=>out b (h4 x hx b e)),h3.mono hk.size,h4,λp hp'=>(h5 p hp').mono hk.size⟩,
  λp hp'=>⟨(ho p hp').1.kept hk hp λb e=>out b ((ho p hp').1.lt b e).1,(ho p hp').2⟩,hs⟩
theorem MX.mono(h:MX W B vA rows ow)(hb:BH W W'):MX W' B vA rows ow:=by
 obtain⟨⟨xs,h1,h2,h3,h4,h5⟩,ho,hs⟩:=h;have hk:zah (λ_=>False) W W':=.of_below hb;exact⟨⟨xs,h1.kept hk (λ_ _ h=>h),h2.mono hb,h3.mono hb.size,h4,λp hp=>(h5 p hp).mono hb.size⟩,λp hp=>⟨(ho p hp).1.mono hb,(ho p hp).2⟩,hs⟩
theorem MX.own(h:MX W B vA rows ow){p:Vl×List Qo}(hp:p∈ow):zaI W B p.1 p.2:=(h.o p hp).1
end
theorem zbi{w:Wo}{B s n cap m:Nat}{x:Vl}(h:w.ownsRow B e s (.slice (sD g 0) n cap) m xs):(w.setCell (aD_ g k) x).ownsRow B e s (.slice (sD g 0) n cap) m (xs.set k x):=by
 obtain⟨hl,hr⟩:=h;refine⟨by simp[hl],?_⟩;rcases hr with⟨hv,_⟩|⟨g',cap',cur,hv,hB,hg,hn,hm,hs,ht⟩
 ·cases hv
 ·cases hv
  refine .inr ⟨g,cap,cur.setIfInBounds k x,rfl,hB,?_,hn,hm,by simp[hs],?_⟩
  ·rw[setCell_eq_setRow w g k cur e (0,0) x hg,setRow_heap w g cur _ e _ hg]
  ·rw[Array.toList_setIfInBounds,List.take_set,ht]
theorem ze9{w:Wo}{B s n cap m:Nat}{x:Vl}(hn:NoI w (.slice (sD g 0) n cap))(h:w.ownsRow B e s (.slice (sD g 0) n cap) m xs)(hx:zaJ x):NoI (w.setCell (aD_ g k) x) (.slice (sD g 0) n cap):=by
 obtain⟨hl,hr⟩:=h;rcases hr with⟨hv,_⟩|⟨g',cap',cur,hv,hB,hg,_⟩
 ·cases hv
 ·cases hv
  intro g' hg' cur' t fr hc u hu;simp only[Value.ownBlock,Option.some.injEq]at hg';subst hg';rw[setCell_eq_setRow w g k cur e (0,0) x hg,setRow_heap w g cur _ e _ hg]at hc;simp only[Option.some.injEq,Obj.cells.injEq]at hc;obtain⟨rfl,_,_⟩:=hc;rw[Array.toList_setIfInBounds]at hu;rcases List.mem_or_eq_of_mem_set hu with hu|rfl
  ·exact hn g rfl cur e _ hg u hu
  ·exact hx
theorem zaI.put{w:Wo}{B n cap:Nat}{n1:Bool}{a1:OA}{l1 c1:Nat}{n2:Bool}{a2:OA}{l2 c2:Nat}{o:Qo}(h:zaI w B (.slice (sD g 0) n cap) l)(hi:i<l.length)(hv:QV w (.agg #[.bool n1,.slice a1 l1 c1,.bool n2,.slice a2 l2 c2]) o) :
  zaI ((((w.setCell ⟨g,i*4,none⟩ (.bool n1)).setCell ⟨g,i*4+1,none⟩ (.slice a1 l1 c1)).setCell ⟨g,i*4+2,none⟩ (.bool n2)).setCell ⟨g,i*4+3,none⟩ (.slice a2 l2 c2)) B (.slice (sD g 0) n cap) (l.set i o) /\
  Grw w ((((w.setCell ⟨g,i*4,none⟩ (.bool n1)).setCell ⟨g,i*4+1,none⟩ (.slice a1 l1 c1)).setCell ⟨g,i*4+2,none⟩ (.bool n2)).setCell ⟨g,i*4+3,none⟩ (.slice a2 l2 c2)) (.slice (sD g 0) n cap) (.slice (sD g 0) n cap):=by
 obtain⟨xs,h1,h2,h3⟩:=h;have hno:NoG (λk=>k=g) w:=λk hk cur t fr hc=>by subst hk;exact h2 k rfl cur t fr hc
 have hk:zah (λk=>k=g) w ((((w.setCell ⟨g,i*4,none⟩ (.bool n1)).setCell ⟨g,i*4+1,none⟩ (.slice a1 l1 c1)).setCell ⟨g,i*4+2,none⟩ (.bool n2)).setCell ⟨g,i*4+3,none⟩ (.slice a2 l2 c2)) :=
  (((((zah.refl w:zah (λk=>k=g) w w)).setCell (p:=⟨g,i*4,none⟩) rfl _).setCell (p:=⟨g,i*4+1,none⟩) rfl _).setCell (p:=⟨g,i*4+2,none⟩) rfl _).setCell (p:=⟨g,i*4+3,none⟩) rfl _
 have b1:zaJ (.bool n1):=by intro k z e;cases e
 have b2:zaJ (.bool n2):=by intro k z e;cases e
 have r1:=zbi (k:=i*4) (x:=.bool n1) h1;have r2:=zbi (k:=i*4+1) (x:=.slice a1 l1 c1) r1;have r3:=zbi (k:=i*4+2) (x:=.bool n2) r2;have r4:=zbi (k:=i*4+3) (x:=.slice a2 l2 c2) r3;have n4:=ze9 (k:=i*4+3) (x:=.slice a2 l2 c2) (ze9 (k:=i*4+2) (x:=.bool n2) (ze9 (k:=i*4+1) (x:=.slice a1 l1 c1) (ze9 (k:=i*4) (x:=.bool n1) h2 h1 b1) r1 (zaN _ _ _)) r2 b2) r3 (zaN _ _ _);have hxl:xs.length=l.length*4:=h1.1;refine⟨⟨_,by rw[List.length_set];exact r4,n4,?_⟩,⟨⟨hk.os,hk.tape,hk.output,hk.size,λk hk1 hk2=>hk.block k hk1 λe=>hk2 (by rw[e];rfl)⟩,h2,.inl rfl⟩⟩;intro j q hj
 by_cases hji:j=i
 ·subst hji;rw[List.getElem?_set_self hi]at hj
  cases hj
  refine⟨n1,a1,l1,c1,n2,a2,l2,c2,?_,?_,?_,?_,hv.kept hk hno⟩
  ·rw[List.getElem?_set_ne oM,List.getElem?_set_ne oM,List.getElem?_set_ne oM,List.getElem?_set_self oM]
  ·rw[List.getElem?_set_ne oM,List.getElem?_set_ne oM,List.getElem?_set_self (by simp;omega)]
  ·rw[List.getElem?_set_ne oM,List.getElem?_set_self (by simp;omega)]
  ·rw[List.getElem?_set_self (by simp;omega)]
 ·rw[List.getElem?_set_ne (λe=>hji e.symm)]at hj;obtain⟨m1,b1,k1,d1,m2,b2,k2,d2,e0,e1,e2,e3,hr⟩:=h3 j q hj;have hs:∀m,m<4->((((xs.set (i*4) (.bool n1)).set (i*4+1) (.slice a1 l1 c1)).set (i*4+2) (.bool n2)).set (i*4+3) (.slice a2 l2 c2))[j*4+m]?=xs[j*4+m]?:=by
   intro m hm;rw[List.getElem?_set_ne oM,List.getElem?_set_ne oM,List.getElem?_set_ne oM,List.getElem?_set_ne oM]
  exact⟨m1,b1,k1,d1,m2,b2,k2,d2,(hs 0 oM).trans e0,(hs 1 oM).trans e1,(hs 2 oM).trans e2,(hs 3 oM).trans e3,hr.kept hk hno⟩
theorem zlH(va vb:Vl)(a b:Rat)(k:Int)(w:Wo)(ha:zad w va a)(hb:zad w vb b)(h0:Hid (b.num≠0))(hs:Hid (KQ k (zlI a b)))(hE:Env w) :
  CP 67 #[va,vb] w λe w'=>PK k (a / b) w' e/\BH w w':=by
 have HS:Hid (KQ k (Rq.Sm (a.num*(b.den:Int))/\Rq.Sm ((a.den:Int)*b.num))):=hii hs.o;have HNE:Hid ((a.den:Int)*b.num≠0):=hii (Int.mul_ne_zero (Rq.den_ne a) h0.o);obtain⟨sg,hsg⟩:∃s,zaB b.num=s:=⟨_,rfl⟩;have HSG:=hii hsg;have hsg0:sg≠0:=by rw[<-hsg];have:=h0.o;unfold zaB;split<;>(try split)<;>omega
 clear hsg;have hbw:=Below.refl w.heap.size w;obtain⟨J1,ao1,n1,Y1,J2,ao2,n2,Y2,rfl,h1,h2⟩:=ha;have HV1:=hii h1;have HV2:=hii h2;clear h1 h2;obtain⟨J3,ao3,n3,Y3,J4,ao4,n4,Y4,rfl,h1,h2⟩:=hb;have HV3:=hii h1;have HV4:=hii h2;clear h1 h2;go_enter func67,ntmps67;go_upto_region 1 with fail;obtain⟨wx,hwx,hszx,X1,X2,X3,hb⟩:=za1 w (.bool J1) (.slice ao1 n1 Y1) (.bool J2) (.slice ao2 n2 Y2) 32 (.bool J3) (.slice ao3 n3 Y3) (.bool J4) (.slice ao4 n4 Y4) 32 bF_ nS_ bF_ nS_ 32;rw[<-hwx];clear hwx;obtain⟨v1,rfl⟩:=exi wx;have HV1:=hup HV1 hb;have HV2:=hup HV2 hb;have HV3:=hup HV3 hb;have HV4:=hup HV4 hb;have hE:=hE.mono hb;have hbw:=bu hbw hb;clear hb;obtain⟨x1a,x1b,x1c,x1d,_,_,_,_⟩:=id X1;go_wp2_with fail;go_fit (zay _ a v1 (zad.mk' HV1 HV2) hE);rintro e v2⟨rfl,hb⟩;have HV1:=hup HV1 hb;have HV2:=hup HV2 hb;have HV3:=hup HV3 hb;have HV4:=hup HV4 hb;have X1:=X1.mono hb;have X2:=X2.mono hb;have X3:=X3.mono hb;have hE:=hE.mono hb;have hbw:=bu hbw hb;clear hb;clear x1a x1b x1c x1d;obtain⟨x2a,x2b,x2c,x2d,_,_,_,_⟩:=id X2;go_wp2_with fail;go_fit (zay _ b v2 (zad.mk' HV3 HV4) hE);rintro e v3⟨rfl,hb⟩;have HV1:=hup HV1 hb;have HV2:=hup HV2 hb;have HV3:=hup HV3 hb;have HV4:=hup HV4 hb;have X1:=X1.mono hb;have X2:=X2.mono hb;have X3:=X3.mono hb;have hE:=hE.mono hb;have hbw:=bu hbw hb;clear hb;clear x2a x2b x2c x2d;obtain⟨x2a,x2b,x2c,x2d,_,_,_,_⟩:=id X2;go_wp2_with fail;go_fit (zbF _ b.num sg v3 HSG HV3.o hE);rintro e v4⟨rfl,hb⟩;have HV1:=hup HV1 hb;have HV2:=hup HV2 hb;have HV3:=hup HV3 hb;have HV4:=hup HV4 hb;have X1:=X1.mono hb;have X2:=X2.mono hb;have X3:=X3.mono hb;have hE:=hE.mono hb;have hbw:=bu hbw hb;clear hb;clear x2a x2b x2c x2d;have hsg1:(sg==0)=false:=by simpa using hsg0
 obtain⟨x1a,x1b,x1c,x1d,_,_,_,_⟩:=id X1;obtain⟨x2a,x2b,x2c,x2d,_,_,_,_⟩:=id X2;go_wp2_with fail;go_fit (zeu _ _ _ _ a.num (b.den:Int) (a.den:Int) b.num k v4 HV1.o HV4.o HV2.o HV3.o HS HNE hE);rintro e v5⟨⟨J5,ao5,n5,Y5,J6,ao6,n6,Y6,rfl,HV5,HV6,Hz⟩,hb⟩;have X3:=X3.mono hb;have hbw:=bu hbw hb;clear hb;clear x1a x1b x1c x1d x2a x2b x2c x2d;rw[Rq.div_eq]at HV5 HV6;obtain⟨x3a,x3b,x3c,x3d,_,_,_,_⟩:=id X3;go_wp2;refine bodyPost_ret (v:=.tuple #[.agg #[.bool J5,.slice ao5 n5 Y5,.bool J6,.slice ao6 n6 Y6],.int .i64 k]) (by simp[results,Tryz.results67,go_sem,x3a,x3b,x3c,x3d]) rfl ⟨⟨J5,ao5,n5,Y5,J6,ao6,n6,Y6,rfl,hii (HV5.o.put4B X3 (.bool J5) (.slice ao5 n5 Y5) (.bool J6) (.slice ao6 n6 Y6)),hii (HV6.o.put4B X3 (.bool J5) (.slice ao5 n5 Y5) (.bool J6) (.slice ao6 n6 Y6)),Hz⟩,Below.put4 hbw oM (.bool J5) (.slice ao5 n5 Y5) (.bool J6) (.slice ao6 n6 Y6)⟩
theorem znZ(va vb:Vl)(a b:Rat)(k:Int)(w:Wo)(ha:zad w va a)(hb:zad w vb b)(h0:Hid (b.num≠0))(hs:Hid (KQ k (zlI a b)))(hE:Env w) :
  CP 63 #[va,vb] w λe w'=>PK k (a / b) w' e/\BH w w':=by
 obtain⟨k1,h_k1⟩:=KQ.ex (Rq.Sm (a.num*(b.den:Int)));have H_k1:=hii h_k1;clear h_k1;obtain⟨k2,h_k2⟩:=KQ.ex (Rq.Sm ((a.den:Int)*b.num));have H_k2:=hii h_k2;clear h_k2;have HNE:Hid ((a.den:Int)*b.num≠0):=hii (Int.mul_ne_zero (Rq.den_ne a) h0.o);obtain⟨sg,hsg⟩:∃s,zaB b.num=s:=⟨_,rfl⟩;have HSG:=hii hsg;have hsg0:sg≠0:=by rw[<-hsg];have:=h0.o;unfold zaB;split<;>(try split)<;>omega
 clear hsg;have hbw:=Below.refl w.heap.size w;obtain⟨J1,ao1,n1,Y1,J2,ao2,n2,Y2,rfl,h1,h2⟩:=ha;have HV1:=hii h1;have HV2:=hii h2;clear h1 h2;obtain⟨J3,ao3,n3,Y3,J4,ao4,n4,Y4,rfl,h1,h2⟩:=hb;have HV3:=hii h1;have HV4:=hii h2;clear h1 h2;go_enter func63,ntmps63;go_upto_region 1 with fail;obtain⟨wx,hwx,hszx,X1,X2,X3,hb⟩:=za1 w (.bool J1) (.slice ao1 n1 Y1) (.bool J2) (.slice ao2 n2 Y2) 32 (.bool J3) (.slice ao3 n3 Y3) (.bool J4) (.slice ao4 n4 Y4) 32 bF_ nS_ bF_ nS_ 32;rw[<-hwx];clear hwx;obtain⟨v1,rfl⟩:=exi wx;have HV1:=hup HV1 hb;have HV2:=hup HV2 hb;have HV3:=hup HV3 hb;have HV4:=hup HV4 hb;have hE:=hE.mono hb;have hbw:=bu hbw hb;clear hb;obtain⟨x1a,x1b,x1c,x1d,_,_,_,_⟩:=id X1;go_wp2_with fail;go_fit (zaS _ a v1 (zad.mk' HV1 HV2) hE);rintro e v2⟨rfl,hb⟩;have HV1:=hup HV1 hb;have HV2:=hup HV2 hb;have HV3:=hup HV3 hb;have HV4:=hup HV4 hb;have X1:=X1.mono hb;have X2:=X2.mono hb;have X3:=X3.mono hb;have hE:=hE.mono hb;have hbw:=bu hbw hb;clear hb;clear x1a x1b x1c x1d;obtain⟨x2a,x2b,x2c,x2d,_,_,_,_⟩:=id X2;go_wp2_with fail;go_fit (zaS _ b v2 (zad.mk' HV3 HV4) hE);rintro e v3⟨rfl,hb⟩;have HV1:=hup HV1 hb;have HV2:=hup HV2 hb;have HV3:=hup HV3 hb;have HV4:=hup HV4 hb;have X1:=X1.mono hb;have X2:=X2.mono hb;have X3:=X3.mono hb;have hE:=hE.mono hb;have hbw:=bu hbw hb;clear hb;clear x2a x2b x2c x2d;obtain⟨x2a,x2b,x2c,x2d,_,_,_,_⟩:=id X2;go_wp2_with fail;go_fit (zaW _ b.num sg v3 HSG HV3.o);rintro e v4⟨rfl,hb⟩;have HV1:=hup HV1 hb;have HV2:=hup HV2 hb;have HV3:=hup HV3 hb;have HV4:=hup HV4 hb;have X1:=X1.mono hb;have X2:=X2.mono hb;have X3:=X3.mono hb;have hE:=hE.mono hb;have hbw:=bu hbw hb;clear hb;clear x2a x2b x2c x2d;have hsg1:(sg==0)=false:=by simpa using hsg0
 obtain⟨x1a,x1b,x1c,x1d,_,_,_,_⟩:=id X1;obtain⟨x2a,x2b,x2c,x2d,_,_,_,_⟩:=id X2;go_wp2_with fail;go_fit (zcD _ _ a.num (b.den:Int) k1 v4 HV1.o HV4.o H_k1 hE);rintro e v5⟨⟨J5,ao5,n5,Y5,rfl,HV5⟩,hb⟩;have HV2:=hup HV2 hb;have HV3:=hup HV3 hb;have X1:=X1.mono hb;have X2:=X2.mono hb;have X3:=X3.mono hb;have hE:=hE.mono hb;have hbw:=bu hbw hb;clear hb;clear x1a x1b x1c x1d x2a x2b x2c x2d;go_upto_region 6 with fail;have lX5X1:=X1.lt;have lX5X2:=X2.lt;have lX5X3:=X3.lt;have X5:=Box.new v5 (.bool J5) (.slice ao5 n5 Y5) 30;have hb:=bA v5 (.cells #[.bool J5,.slice ao5 n5 Y5] 30);generalize v5.alloc (.cells #[.bool J5,.slice ao5 n5 Y5] 30)=v6 at*;have HV2:=hup HV2 hb;have HV3:=hup HV3 hb;have X1:=X1.mono hb;have X2:=X2.mono hb;have X3:=X3.mono hb;have HV5:=hup HV5 hb;have hE:=hE.mono hb;have hbw:=bu hbw hb;clear hb;obtain⟨x1a,x1b,x1c,x1d,_,_,_,_⟩:=id X1;obtain⟨x2a,x2b,x2c,x2d,_,_,_,_⟩:=id X2;go_wp2_with fail;go_fit (zcD _ _ (a.den:Int) b.num k2 v6 HV2.o HV3.o H_k2 hE);rintro e v7⟨⟨J6,ao6,n6,Y6,rfl,HV6⟩,hb⟩;have X1:=X1.mono hb;have X2:=X2.mono hb;have X3:=X3.mono hb;have HV5:=hup HV5 hb;have X5:=X5.mono hb;have hE:=hE.mono hb;have hbw:=bu hbw hb;clear hb;clear x1a x1b x1c x1d x2a x2b x2c x2d;go_upto_region 7 with fail;have lX6X1:=X1.lt;have lX6X2:=X2.lt;have lX6X3:=X3.lt;have lX6X5:=X5.lt;have X6:=Box.new v7 (.bool J6) (.slice ao6 n6 Y6) 30;have hb:=bA v7 (.cells #[.bool J6,.slice ao6 n6 Y6] 30);generalize v7.alloc (.cells #[.bool J6,.slice ao6 n6 Y6] 30)=v8 at*;have X3:=X3.mono hb;have HV5:=hup HV5 hb;have X5:=X5.mono hb;have HV6:=hup HV6 hb;have hE:=hE.mono hb;have hbw:=bu hbw hb;clear hb;rcases H_k1.o with⟨rfl,h_k1⟩|⟨rfl,h_k1⟩
 ·have G_k1:=hii h_k1;clear h_k1;rw[zbB]at HV5;rcases H_k2.o with⟨rfl,h_k2⟩|⟨rfl,h_k2⟩
  ·have G_k2:=hii h_k2;clear h_k2;rw[zbB]at HV6;obtain rfl:k=0:=hs.o.yes ⟨G_k1.o,G_k2.o⟩;obtain⟨x5a,x5b,_,_⟩:=id X5;obtain⟨x6a,x6b,_,_⟩:=id X6;go_wp2_with fail;go_fit (zcX _ _ (a.num*(b.den:Int)) ((a.den:Int)*b.num) v8 HV5.o HV6.o HNE hE);rintro e v9⟨⟨J7,ao7,n7,Y7,J8,ao8,n8,Y8,rfl,HV7,HV8⟩,hb⟩;have X3:=X3.mono hb;have hbw:=bu hbw hb;clear hb;clear x5a x5b x6a x6b;rw[Rq.div_eq]at HV7 HV8;obtain⟨x3a,x3b,x3c,x3d,_,_,_,_⟩:=id X3;go_wp2;refine bodyPost_ret (v:=.tuple #[.agg #[.bool J7,.slice ao7 n7 Y7,.bool J8,.slice ao8 n8 Y8],.int .i64 0]) (by simp[results,Tryz.results63,go_sem,x3a,x3b,x3c,x3d]) rfl ⟨PK.of ⟨J7,ao7,n7,Y7,J8,ao8,n8,Y8,rfl,hii (HV7.o.put4B X3 (.bool J7) (.slice ao7 n7 Y7) (.bool J8) (.slice ao8 n8 Y8)),hii (HV8.o.put4B X3 (.bool J7) (.slice ao7 n7 Y7) (.bool J8) (.slice ao8 n8 Y8))⟩,Below.put4 hbw oM (.bool J7) (.slice ao7 n7 Y7) (.bool J8) (.slice ao8 n8 Y8)⟩
  ·have G_k2:=hii h_k2;clear h_k2;obtain rfl:k=3:=hs.o.no (λh=>G_k2.o h.2);obtain⟨x3a,x3b,x3c,x3d,_,_,_,_⟩:=id X3;go_wp2;refine bodyPost_ret (v:=.tuple #[.agg #[bF_,nS_,bF_,nS_],.int .i64 3]) (by simp[results,Tryz.results63,go_sem,x3a,x3b,x3c,x3d]) rfl ⟨PK.err _ _,Below.put4 hbw oM bF_ nS_ bF_ nS_⟩
 ·have G_k1:=hii h_k1;clear h_k1;obtain rfl:k=3:=hs.o.no (λh=>G_k1.o h.1);obtain⟨x3a,x3b,x3c,x3d,_,_,_,_⟩:=id X3;go_wp2;refine bodyPost_ret (v:=.tuple #[.agg #[bF_,nS_,bF_,nS_],.int .i64 3]) (by simp[results,Tryz.results63,go_sem,x3a,x3b,x3c,x3d]) rfl ⟨PK.err _ _,Below.put4 hbw oM bF_ nS_ bF_ nS_⟩
def zaM(u:Vl):Prop:=∀z,u≠.int .u32 z
def NoU(G:Nat->Prop)(w:Wo):Prop:=∀g,G g->∀cur t fr,w.heap[g]?=some (.cells cur t fr)->∀u∈cur.toList,zaM u
theorem zaJ.limb{u:Vl}(h:zaJ u):zaM u:=λz=>h .u32 z
theorem NoG.u{w:Wo}(h:NoG G w):NoU G w:=λg hg cur t fr hc u hu=>(h g hg cur t fr hc u hu).limb
theorem Row.noU{w:Wo}{E:TypeId}(h:Row w g E xs)(hx:∀u∈xs,zaM u):NoU (λk=>k=g) w:=by
 intro k hk cur t fr hc;subst hk;have:=h.symm.trans hc;simp only[Option.some.injEq,Obj.cells.injEq]at this;obtain⟨rfl,_,_⟩:=this;exact hx
theorem U.keptU{w:Wo}{l:LN}(h:U w ao l)(hk:zah G w w')(hp:NoU G w):U w' ao l:=by
 intro i hi;obtain⟨b,off,e,hc⟩:=h i hi;refine⟨b,off,e,?_⟩
 by_cases hb:G b
 ·exfalso
  unfold World.cell? at hc;simp only at hc
  cases ho:w.heap[b]? with
  |none=>rw[ho]at hc;simp at hc
  |some ob=>
   rw[ho]at hc
   cases ob with
   |cells cur t fr=>
    simp only[Option.isSome_none,Bool.false_eq_true,if_false]at hc;exact hp b hb cur t fr ho _ (by have:=Array.mem_of_getElem? hc;exact Array.mem_toList_iff.2 this) _ rfl
   |_=>simp at hc
 ·exact hk.cell hc hb
theorem zai.keptU{w:Wo}{u:Vl}{z:Int}(h:zai w u z)(hk:zah G w w')(hp:NoU G w):zai w' u z:=by
 obtain⟨n1,ao1,L1,c1,rfl,Hn1,HL1,HB1,hc1,hl1,hU1⟩:=h;exact⟨n1,ao1,L1,c1,rfl,Hn1,HL1,HB1,hc1,hl1,hU1.keptU hk hp⟩
theorem zad.keptU{w:Wo}{u:Vl}{r:Rat}(h:zad w u r)(hk:zah G w w')(hp:NoU G w):zad w' u r:=by
 obtain⟨n1,a1,l1,c1,n2,a2,l2,c2,e,h1,h2⟩:=h;exact⟨n1,a1,l1,c1,n2,a2,l2,c2,e,h1.keptU hk hp,h2.keptU hk hp⟩
theorem VQ.keptU{w:Wo}{u:Vl}{b:Bool}(h:VQ w u b)(hk:zah G w w')(hp:NoU G w):VQ w' u b:=by
 obtain⟨x1,x2,l1,l2,a1,a2,c1,c2,e,h1,h2,k1,k2,h3,h4,h5⟩:=h;exact⟨x1,x2,l1,l2,a1,a2,c1,c2,e,h1,h2,k1,k2,h3.keptU hk hp,h4.keptU hk hp,h5⟩
theorem QV.keptU{w:Wo}{u:Vl}{o:Qo}(h:QV w u o)(hk:zah G w w')(hp:NoU G w):QV w' u o:=by
 cases o
 ·exact VQ.keptU h hk hp
 ·exact zad.keptU h hk hp
theorem QAt.keptU{w:Wo}{o:Qo}(h:QAt w xs i o)(hk:zah G w w')(hp:NoU G w):QAt w' xs i o:=by
 obtain⟨n1,a1,l1,c1,n2,a2,l2,c2,e0,e1,e2,e3,hr⟩:=h;exact⟨n1,a1,l1,c1,n2,a2,l2,c2,e0,e1,e2,e3,hr.keptU hk hp⟩
theorem zaI.keptU{w:Wo}{B:Nat}(h:zaI w B v l)(hk:zah G w w')(hp:NoU G w)(hv:∀b,v.ownBlock=some b->¬G b):zaI w' B v l:=by
 obtain⟨xs,h1,h2,h3⟩:=h;exact⟨xs,zaZ h1 hk hv,h2.kept h1 hk hv,λi o hi=>(h3 i o hi).keptU hk hp⟩
def up(L:Nat->Nat->Rat)(i j:Nat)(r:Rat):Nat->Nat->Rat:=λt c=>if t=i/\c=j then r else L t c
theorem zmi(L:Nat->Nat->Rat)(i j:Nat)(r:Rat):up L i j r i j=r:=by unfold up;rw[if_pos ⟨rfl,rfl⟩]
theorem zfE{r:Rat}{t c:Nat}(h:t≠i\/c≠j):up L i j r t c=L t c:=by unfold up;rw[if_neg oM]
def zbt(L:Nat->Nat->Rat)(i k:Nat):List Qo:=(List.range k).map λj=>some (L i j)
theorem zap(L:Nat->Nat->Rat)(i k:Nat):(zbt L i k).length=k:=by simp[zbt]
theorem zbA(h:j<k):(zbt L i k)[j]?=some (some (L i j)):=by
 unfold zbt;rw[List.getElem?_map,List.getElem?_range h];rfl
theorem zih{M:Nat->Nat->Rat}{t:Nat}(h:∀j,j<k->L i j=M t j):zbt L i k=zbt M t k:=by
 unfold zbt;exact List.map_congr_left λj hj=>by rw[h j (List.mem_range.1 hj)]
theorem zkW{r:Rat}(h:j<k):(zbt L i k).set j (some r)=zbt (up L i j r) i k:=by
 refine List.ext_getElem? λc=>?_
 by_cases hc:c<k
 ·rw[zbA hc]
  by_cases e:c=j
  ·subst e;rw[List.getElem?_set_self (by rw[zap];exact h),zmi]
  ·rw[List.getElem?_set_ne (λh=>e h.symm),zbA hc,zfE (.inr e)]
 ·rw[List.getElem?_eq_none (by simp[zap];omega),List.getElem?_eq_none (by simp[zap];omega)]
theorem zmu{t:Nat}{r:Rat}(h:t≠i):zbt (up L i j r) t k=zbt L t k:=zih λ_ _=>zfE (.inl h)
def zlz(bs:Nat->Nat)(m:Nat):List Vl:=(List.range m).map λi=>.int .i64 (bs i:Nat)
theorem zcG(bs:Nat->Nat)(m:Nat):(zlz bs m).length=m:=by simp[zlz]
theorem zfq{m:Nat}(h:i<m):(zlz bs m)[i]?=some (.int .i64 (bs i:Nat)):=by
 unfold zlz;rw[List.getElem?_map,List.getElem?_range h];rfl
theorem zly{m:Nat}(h:i<m):(zlz bs m).set i (.int .i64 (k:Nat))=zlz (λt=>if t=i then k else bs t) m:=by
 refine List.ext_getElem? λc=>?_
 by_cases hc:c<m
 ·rw[zfq hc]
  by_cases e:c=i
  ·subst e;rw[List.getElem?_set_self (by rw[zcG];exact h),if_pos rfl]
  ·rw[List.getElem?_set_ne (λh=>e h.symm),zfq hc,if_neg e]
 ·rw[List.getElem?_eq_none (by simp[zcG];omega),List.getElem?_eq_none (by simp[zcG];omega)]
theorem zpa(g j:Nat):(⟨g,0,none⟩:Addr).add j=⟨g,j,none⟩:=by
 unfold Addr.add;split
 ·subst j;rfl
 ·simp
theorem za0{w:Wo}{B s n cap m:Nat}(h:w.ownsRow B e s (.slice (sD g 0) n cap) m xs)(j:Nat):w.frozen? ⟨g,j,none⟩=false:=by
 rcases h.2 with⟨e,_⟩|⟨g',cap',cur,e,hB,hg,_⟩
 ·cases e
 ·cases e
  simp[World.frozen?,hg]
theorem zaE{w:Wo}{B s n cap m:Nat}(h:w.ownsRow B e s (.slice (sD g 0) n cap) m xs){u:Vl}(hu:xs[j]?=some u):w.cell? (aD_ g j)=some u:=by
 have:=h.cells (g:=g) rfl j u hu;rw[zpa]at this;exact this
theorem zaI.cells4{w:Wo}{B n cap:Nat}{r:Rat}(h:zaI w B (.slice (sD g 0) n cap) l)(hi:l[i]?=some (some r)):∃(n1:Bool)(a1:OA)(l1 c1:Nat)(n2:Bool)(a2:OA)(l2 c2:Nat),
  w.cell? ⟨g,i*4,none⟩=some (.bool n1)/\w.cell? ⟨g,i*4+1,none⟩=some (.slice a1 l1 c1)/\w.cell? ⟨g,i*4+2,none⟩=some (.bool n2)/\w.cell? ⟨g,i*4+3,none⟩=some (.slice a2 l2 c2) /\
  w.frozen? ⟨g,i*4,none⟩=false/\w.frozen? ⟨g,i*4+1,none⟩=false/\w.frozen? ⟨g,i*4+2,none⟩=false/\w.frozen? ⟨g,i*4+3,none⟩=false /\
  zad w (qA n1 a1 l1 c1 n2 a2 l2 c2) r:=by
 obtain⟨xs,h1,h2,h3⟩:=h;obtain⟨n1,a1,l1,c1,n2,a2,l2,c2,e0,e1,e2,e3,hq⟩:=h3 i _ hi;exact⟨n1,a1,l1,c1,n2,a2,l2,c2,zaE h1 e0,zaE h1 e1,zaE h1 e2,zaE h1 e3,za0 h1 _,za0 h1 _,za0 h1 _,za0 h1 _,hq⟩
structure TB(W:Wo)(B g ga ca gb cb m n q:Nat)(rr cr:Nat->Nat)(L:Nat->Nat->Rat)(bs:Nat->Nat):Prop where
 env:∃w0,Env w0/\w0.heap.size=B/\Below B w0 W
 box:Row W g 164 [.int .i64 (m:Nat),.int .i64 (n:Nat),.slice (sD ga 0) (m+1) ca,.slice (sD gb 0) m cb,.int .i64 0]
 out:∀i,i<=m->W.cell? (aD_ ga i)=some (.slice (some ⟨rr i,0,none⟩) (q+1) (cr i))
 row:∀i,i<=m->zaI W B (.slice (some ⟨rr i,0,none⟩) (q+1) (cr i)) (zbt L i (q+1))
 bas:W.ownsRow B 3 1 (.slice (sD gb 0) m cb) m (zlz bs m)
 bno:NoU (λk=>k=gb) W
 inj:∀i t,i<=m->t<=m->rr i=rr t->i=t
 sepr:∀i,i<=m->rr i≠g/\rr i≠ga/\rr i≠gb
 sep:g≠ga/\g≠gb/\ga≠gb
 low:B<=g/\B<=ga
 lt:ga<W.heap.size
 small:m<=1000/\n<=1000
 wq:q=n+m
theorem TB.o{W:Wo}{B g ga ca gb cb m n q:Nat}{rr cr:Nat->Nat}{L:Nat->Nat->Rat}{bs:Nat->Nat}(h:TB W B g ga ca gb cb m n q rr cr L bs):∀i,i<=m->W.cell? (aD_ ga i)=some (.slice (some ⟨rr i,0,none⟩) (q+1) (cr i)):=h.out
section
variable {W W' : Wo} {B g ga ca gb cb m n q : Nat} {rr cr : Nat → Nat} {L : Nat → Nat → Rat} {bs : Nat → Nat}
theorem TB.lowB(h:TB W B g ga ca gb cb m n q rr cr L bs):B<=gb/\gb<W.heap.size:=h.bas.lt gb rfl
theorem TB.lowR(h:TB W B g ga ca gb cb m n q rr cr L bs){i:Nat}(hi:i<=m):B<=rr i/\rr i<W.heap.size:=(h.row i hi).lt (rr i) rfl
theorem TB.size(h:TB W B g ga ca gb cb m n q rr cr L bs):B<=W.heap.size:=by have:=h.lowB;omega
theorem TB.Env'(h:TB W B g ga ca gb cb m n q rr cr L bs):Env W:=by
 obtain⟨w0,h1,rfl,h2⟩:=h.env;exact h1.mono h2
theorem TB.kept{G:Nat->Prop}(h:TB W B g ga ca gb cb m n q rr cr L bs)(hk:zah G W W')(hp:NoU G W)(hB:∀b,G b->B<=b)(h1:¬G g/\¬G ga/\¬G gb)(h2:∀i,i<=m->¬G (rr i)):TB W' B g ga ca gb cb m n q rr cr L bs:=by
 obtain⟨w0,e1,e2,e3⟩:=h.env;refine⟨⟨w0,e1,e2,e3.trans (hk.below hB h.size)⟩,h.box.mono hk h1.1,λi hi=>hk.cell (h.o i hi) h1.2.1,λi hi=>(h.row i hi).keptU hk hp λb e=>by cases e;exact h2 i hi,zaZ h.bas hk λb e=>by cases e;exact h1.2.2,?_,h.inj,h.sepr,h.sep,h.low,Nat.lt_of_lt_of_le h.lt hk.size,h.small,h.wq⟩;intro k hkk cur t fr hc;subst hkk;exact h.bno k rfl cur t fr ((hk.block k h.lowB.2 h1.2.2).symm.trans hc)
theorem TB.mono(h:TB W B g ga ca gb cb m n q rr cr L bs)(hb:BH W W'):TB W' B g ga ca gb cb m n q rr cr L bs :=
 h.kept (G:=λ_=>False) (.of_below hb) (λ_ h=>h.elim) (λ_ h=>h.elim) ⟨_root_.id,_root_.id,_root_.id⟩ λ_ _=>_root_.id
theorem TB.cells4(h:TB W B g ga ca gb cb m n q rr cr L bs){i j:Nat}(hi:i<=m)(hj:j<q+1):∃(n1:Bool)(a1:OA)(l1 c1:Nat)(n2:Bool)(a2:OA)(l2 c2:Nat),
  W.cell? ⟨rr i,j*4,none⟩=some (.bool n1)/\W.cell? ⟨rr i,j*4+1,none⟩=some (.slice a1 l1 c1)/\W.cell? ⟨rr i,j*4+2,none⟩=some (.bool n2)/\W.cell? ⟨rr i,j*4+3,none⟩=some (.slice a2 l2 c2) /\
  W.frozen? ⟨rr i,j*4,none⟩=false/\W.frozen? ⟨rr i,j*4+1,none⟩=false/\W.frozen? ⟨rr i,j*4+2,none⟩=false/\W.frozen? ⟨rr i,j*4+3,none⟩=false /\
  zad W (qA n1 a1 l1 c1 n2 a2 l2 c2) (L i j):=(h.row i hi).cells4 (zbA hj)
theorem TB.basAt(h:TB W B g ga ca gb cb m n q rr cr L bs){i:Nat}(hi:i<m):W.cell? (aD_ gb i)=some (.int .i64 (bs i:Nat))/\W.frozen? ⟨gb,i,none⟩=false :=
 ⟨zaE h.bas (zfq hi),za0 h.bas i⟩
theorem zgQ{w:Wo}{B e s g n cap m:Nat}{xs:List Vl}(h:w.ownsRow B e s (.slice (sD g 0) n cap) m xs):n<=cap:=by
 rcases h.2 with⟨e,_⟩|⟨g',cap',cur,e,hB,hg,hn,_⟩
 ·cases e
 ·cases e;exact hn
theorem TB.cap(h:TB W B g ga ca gb cb m n q rr cr L bs){i:Nat}(hi:i<=m):q+1<=cr i:=by
 obtain⟨xs,h1,_⟩:=h.row i hi;exact zgQ h1
theorem Row.n5{w:Wo}{g:Nat}{E:TypeId}{x0 x1 x2 x3 x4:Vl}(h:Row w g E [x0,x1,x2,x3,x4]):w.cell? (aD_ g 0)=some x0/\w.cell? (aD_ g 1)=some x1/\w.cell? (aD_ g 2)=some x2/\w.cell? (aD_ g 3)=some x3/\w.cell? (aD_ g 4)=some x4 :=
 ⟨h.cell (k:=0) sM,h.cell (k:=1) sM,h.cell (k:=2) sM,h.cell (k:=3) sM,h.cell (k:=4) sM⟩
theorem TB.noG(h:TB W B g ga ca gb cb m n q rr cr L bs){i:Nat}(hi:i<=m):NoG (λk=>k=rr i) W:=by
 obtain⟨xs,_,h2,_⟩:=h.row i hi;intro k hk cur t fr hc;subst hk;exact h2 (rr i) rfl cur t fr hc
theorem TB.uq(h:TB W B g ga ca gb cb m n q rr cr L bs){i k:Nat}(hi:i<=m)(hk:k<=q+1):UQ W (some ⟨rr i,0,none⟩) (zbt L i k):=by
 obtain⟨ao,cap,e,hu⟩:=(h.row i hi).read;simp only[Value.slice.injEq]at e;obtain⟨rfl,-,-⟩:=e;intro j o hj;have hjk:j<k:=by
  rcases Nat.lt_or_ge j k with h|h
  ·exact h
  ·rw[List.getElem?_eq_none (by rw[zap];exact h)]at hj;cases hj
 rw[zbA hjk]at hj;exact hu j o (by rw[zbA oM];exact hj)
theorem TB.put(h:TB W B g ga ca gb cb m n q rr cr L bs){i j:Nat}{n1:Bool}{a1:OA}{l1 c1:Nat}{n2:Bool}{a2:OA}{l2 c2:Nat}{r:Rat}(hi:i<=m)(hj:j<q+1)(hv:zad W (qA n1 a1 l1 c1 n2 a2 l2 c2) r) :
  TB ((((W.setCell ⟨rr i,j*4,none⟩ (.bool n1)).setCell ⟨rr i,j*4+1,none⟩ (.slice a1 l1 c1)).setCell ⟨rr i,j*4+2,none⟩ (.bool n2)).setCell ⟨rr i,j*4+3,none⟩ (.slice a2 l2 c2)) B g ga ca gb cb m n q rr cr (up L i j r) bs /\
  zah (λk=>k=rr i) W ((((W.setCell ⟨rr i,j*4,none⟩ (.bool n1)).setCell ⟨rr i,j*4+1,none⟩ (.slice a1 l1 c1)).setCell ⟨rr i,j*4+2,none⟩ (.bool n2)).setCell ⟨rr i,j*4+3,none⟩ (.slice a2 l2 c2)):=by
 obtain⟨hput,hgr⟩:=(h.row i hi).put (o:=some r) (by rw[zap];exact hj) hv;have hno:=(h.noG hi).u;have hk:zah (λk=>k=rr i) W ((((W.setCell ⟨rr i,j*4,none⟩ (.bool n1)).setCell ⟨rr i,j*4+1,none⟩ (.slice a1 l1 c1)).setCell ⟨rr i,j*4+2,none⟩ (.bool n2)).setCell ⟨rr i,j*4+3,none⟩ (.slice a2 l2 c2)) :=
  (((((zah.refl W:zah (λk=>k=rr i) W W)).setCell (p:=⟨rr i,j*4,none⟩) rfl _).setCell (p:=⟨rr i,j*4+1,none⟩) rfl _).setCell (p:=⟨rr i,j*4+2,none⟩) rfl _).setCell (p:=⟨rr i,j*4+3,none⟩) rfl _
 refine⟨?_,hk⟩;generalize ((((W.setCell ⟨rr i,j*4,none⟩ (.bool n1)).setCell ⟨rr i,j*4+1,none⟩ (.slice a1 l1 c1)).setCell ⟨rr i,j*4+2,none⟩ (.bool n2)).setCell ⟨rr i,j*4+3,none⟩ (.slice a2 l2 c2))=W' at*;obtain⟨w0,e1,e2,e3⟩:=h.env;obtain⟨s1,s2,s3⟩:=h.sepr i hi;refine⟨⟨w0,e1,e2,e3.trans (hk.below (λb e=>by subst e;exact(h.lowR hi).1) h.size)⟩,h.box.mono hk (λe=>s1 e.symm),λt ht=>hk.cell (h.o t ht) (λe=>s2 e.symm),λt ht=>?_,zaZ h.bas hk λb e=>by cases e;exact λe=>s3 e.symm,?_,h.inj,h.sepr,h.sep,h.low,Nat.lt_of_lt_of_le h.lt hk.size,h.small,h.wq⟩
 ·by_cases e:t=i
  ·subst e;rw[<-zkW hj];exact hput
  ·rw[zmu e];exact(h.row t ht).keptU hk hno λb eb=>by cases eb;exact λe2=>e (h.inj t i ht hi e2)
 ·intro k hkk cur t fr hc;subst hkk;exact h.bno k rfl cur t fr ((hk.block k h.lowB.2 λe=>s3 e.symm).symm.trans hc)
theorem TB.bset(h:TB W B g ga ca gb cb m n q rr cr L bs){i:Nat}(hi:i<m)(k:Nat):TB (W.setCell (aD_ gb i) (.int .i64 (k:Nat))) B g ga ca gb cb m n q rr cr L (λt=>if t=i then k else bs t)/\zah (λb=>b=gb) W (W.setCell (aD_ gb i) (.int .i64 (k:Nat))):=by
 have hk:zah (λb=>b=gb) W (W.setCell (aD_ gb i) (.int .i64 (k:Nat))):=(zah.refl W:zah (λb=>b=gb) W W).setCell (p:=⟨gb,i,none⟩) rfl _;refine⟨?_,hk⟩;obtain⟨w0,e1,e2,e3⟩:=h.env;obtain⟨s1,s2,s3⟩:=h.sep;refine⟨⟨w0,e1,e2,e3.trans (hk.below (λb e=>by subst e;exact h.lowB.1) h.size)⟩,h.box.mono hk s2,λt ht=>hk.cell (h.o t ht) s3,λt ht=>(h.row t ht).keptU hk h.bno λb e=>by cases e;exact(h.sepr t ht).2.2,?_,?_,h.inj,h.sepr,h.sep,h.low,Nat.lt_of_lt_of_le h.lt hk.size,h.small,h.wq⟩
 ·have:=zbi (k:=i) (x:=.int .i64 (k:Nat)) h.bas;rw[zly hi]at this;exact this
 ·have hb:=h.bas;rcases hb.2 with⟨e,_⟩|⟨g',cap',cur,e,hB,hg,_⟩
  ·cases e
  ·cases e
   intro k' hk' cur' t fr hc u hu;subst hk';rw[setCell_eq_setRow W k' i cur 3 (0,0) _ hg,setRow_heap W k' cur _ 3 _ hg]at hc;simp only[Option.some.injEq,Obj.cells.injEq]at hc;obtain⟨rfl,_,_⟩:=hc;rw[Array.toList_setIfInBounds]at hu;rcases List.mem_or_eq_of_mem_set hu with hu|rfl
   ·exact h.bno k' rfl cur _ _ hg u hu
   ·intro z e;cases e
end
def Kb(j:Nat)(r:Rat):Prop:=Rq.Bd r (KK ^ j) (KK ^ j)
theorem zbK(i j:Nat):KK ^ i*KK ^ j=KK ^ (i+j):=(Nat.pow_add KK i j).symm
theorem Kb.mono{r:Rat}(h:Kb i r)(hij:i<=j):Kb j r:=⟨Nat.le_trans h.1 (zog hij),Nat.le_trans h.2 (zog hij)⟩
theorem zl2(n:Nat):KK ^ n+KK ^ n<=KK ^ (n+1):=by
 rw[Nat.pow_succ,<-Nat.mul_two];exact Nat.mul_le_mul_left _ zhO
section
variable {i j : Nat} {a b : Rat}
theorem Kb.mul(h:Kb i a)(g:Kb j b):Kb (i+j) (a*b):=by
 have:=Rq.bd_mul h g;rw[zbK]at this;exact this
theorem Kb.div(h:Kb i a)(g:Kb j b)(h0:b.num≠0):Kb (i+j) (a / b):=by
 rw[<-Rq.div_eq];refine Rq.bd_of (Int.mul_ne_zero (Rq.den_ne a) h0) ?_ ?_
 ·rw[<-zbK];exact Rq.bd_x h g
 ·rw[<-zbK];exact Rq.mul_bd (by rw[Int.natAbs_natCast];exact h.2) g.1
theorem Kb.divS(h:Kb i a)(g:Kb j b)(hij:i+j<12):zlI a b :=
 ⟨zed hij (by rw[<-zbK];exact Rq.bd_x h g),zed hij (by rw[<-zbK];exact Rq.mul_bd (by rw[Int.natAbs_natCast];exact h.2) g.1)⟩
theorem Kb.mulS(h:Kb i a)(g:Kb j b)(hij:i+j<12):zeN a b :=
 ⟨zed hij (by rw[<-zbK];exact Rq.mul_bd h.1 g.1),zed hij (by rw[<-zbK];exact Rq.bd_dd h g)⟩
theorem Kb.crS(h:Kb i a)(g:Kb j b)(hij:i+j<12):CrS a b :=
 ⟨zed hij (by rw[<-zbK];exact Rq.bd_x h g),zed (n:=j+i) oM (by rw[<-zbK];exact Rq.bd_x g h)⟩
theorem Kb.subS(h:Kb i a)(g:Kb j b)(hij:i+j+1<12):zku a b:=by
 refine⟨h.crS g oM,zed hij ?_,zed (n:=i+j) oM (by rw[<-zbK];exact Rq.bd_dd h g)⟩;have h1:=Rq.bd_x h g;have h2:=Rq.bd_x g h;rw[zbK]at h1 h2;have:=zl2 (i+j);rw[Nat.add_comm j i]at h2;omega
end
end Go.Proofs.YtfgffkmddanjjaaGreatDoor
