/-
  The reference: the workload of a case.
-/
import Derived.Test.YtfgffkmddanjjaaGreatDoorMb
set_option linter.unusedVariables false
set_option linter.unusedSimpArgs false
set_option maxRecDepth 100000
set_option maxHeartbeats 25600000
namespace Go.Proofs.YtfgffkmddanjjaaGreatDoor
open _root_.Go.Proofs.Tryz
open Go.RowKit
def ByU(w:Wo)(ao:OA)(l:LN):Prop:=∀(i:Nat)(x:Nat),l[i]?=some x->∃b off,ao=sD b off/\w.cell? ⟨b,off+i,none⟩=some (.int .u8 (x:Nat))
theorem ByU.mono{w w':Wo}{ao:OA}{l:LN}(h:ByU w ao l)(hb:BH w w'):ByU w' ao l:=λi x hx=>by
 obtain⟨b,off,e,hc⟩:=h i x hx;exact⟨b,off,e,(hb.cell (zag hc)).trans hc⟩
theorem ByU.kept{G:Nat->Prop}{w w':Wo}{ao:OA}{l:LN}(h:ByU w ao l)(hk:zaf G w w')(hp:NoG G w):ByU w' ao l:=by
 intro i x hi;obtain⟨b,off,e,hc⟩:=h i x hi;refine⟨b,off,e,?_⟩
 by_cases hb:G b
 ·exfalso
  unfold World.cell? at hc;simp only at hc
  cases ho:w.heap[b]? with
  |none=>rw[ho]at hc;simp at hc
  |some ob=>
   rw[ho]at hc
   cases ob with
   |cells cur t fr=>
    simp only[Option.isSome_none,Bool.false_eq_true,if_false]at hc;exact hp b hb cur t fr ho _ (by have:=Array.mem_of_getElem? hc;exact Array.mem_toList_iff.2 this) _ _ rfl
   |_=>simp at hc
 ·exact hk.cell hc hb
def FT(l:LN)(_:Nat->Prop)(W:Wo)(v:Vl):Prop:=∃ao cap,v=.slice ao l.length cap/\l.length<=cap/\zaR W ao l
theorem zjN{ops:Array Oper}{k:Nat}(l:LN):zlD (zev ops k) (λG X W=>FT l G W (X k)):=zat λG G' W W' v h hk hn _=>by
 obtain⟨ao,cap,e,hc,hu⟩:=h;exact⟨ao,cap,e,hc,hu.kept hk hn⟩
theorem zb2.ft{w:Wo}{B:Nat}{v:Vl}{l:LN}(h:zb2 w B v l){G:Nat->Prop}:FT l G w v:=by
 obtain⟨ao,cap,e,hc,hu⟩:=h.read;exact⟨ao,cap,e,hc,hu⟩
theorem Row.n7{w:Wo}{g:Nat}{E:TypeId}{a b c d e f x:Vl}(h:Row w g E [a,b,c,d,e,f,x]):w.cell? (aD_ g 0)=some a/\w.cell? (aD_ g 1)=some b/\w.cell? (aD_ g 2)=some c/\w.cell? (aD_ g 3)=some d/\w.cell? (aD_ g 4)=some e/\w.cell? (aD_ g 5)=some f/\w.cell? (aD_ g 6)=some x :=
 ⟨h.cell (k:=0) (by simp),h.cell (k:=1) (by simp),h.cell (k:=2) (by simp),h.cell (k:=3) (by simp),h.cell (k:=4) (by simp),h.cell (k:=5) (by simp),h.cell (k:=6) (by simp)⟩
theorem zkb.seven{v a b c d e f x:Vl}{vs:List Vl}(h:zkb v 7 vs)(h1:v=.agg #[a,b,c,d,e,f,x]):vs=[a,b,c,d,e,f,x]:=by
 rcases h.1 with h2|h2
 ·rw[h1]at h2;simp only[Value.agg.injEq]at h2;have:=congrArg Array.toList h2
  simpa using this.symm
 ·have:=h.2;rw[h2]at this;simp at this
theorem zm1{a b f:OA}{n1 n2 n3 n4 n5 n6:Nat}{x0 x1:Bool}{c d:OA}{n7 n8 n9 n10:Nat}:∀u∈[Value.slice a n1 n2,.slice b n3 n4,.bool x0,.slice c n7 n8,.bool x1,.slice d n9 n10,.slice f n5 n6],zaF u:=by
 intro u hu;simp at hu;rcases hu with rfl|rfl|rfl|rfl|rfl|rfl|rfl<;>(intro k z e;cases e)
theorem WB.noG{W:Wo}{g:Nat}{E:TypeId}{xs:List Vl}(r:Row W g E xs)(hx:∀u∈xs,zaF u):NoG (λb=>b=g) W:=by
 intro b hb cur t fr hc;subst hb;have:=r.symm.trans hc;simp only[Option.some.injEq,Obj.cells.injEq]at this;obtain⟨rfl,_,_⟩:=this;intro u hu;exact hx u (by simpa using hu)
theorem WB.put4{W:Wo}{g:Nat}{x0 x1 x2 x3 x4 x5 x6:Vl}(r:Row W g 35 [x0,x1,x2,x3,x4,x5,x6])(y0 y1 y2 y3:Vl) :
  Row ((((W.setCell (aD_ g 2) y0).setCell (aD_ g 3) y1).setCell (aD_ g 4) y2).setCell (aD_ g 5) y3) g 35 [x0,x1,y0,y1,y2,y3,x6] /\
  zaf (λb=>b=g) W ((((W.setCell (aD_ g 2) y0).setCell (aD_ g 3) y1).setCell (aD_ g 4) y2).setCell (aD_ g 5) y3) :=
 ⟨(((r.set 2 y0).set 3 y1).set 4 y2).set 5 y3,((((zaf.refl W:zaf (λb=>b=g) W W).setCell (p:=⟨g,2,none⟩) rfl _).setCell (p:=⟨g,3,none⟩) rfl _).setCell (p:=⟨g,4,none⟩) rfl _).setCell (p:=⟨g,5,none⟩) rfl _⟩
theorem zke{W:Wo}{g2 B:Nat}{v0 v1 v2 v3 v4 v5 v6 x0 x1 x2 x3 x4 x5 vC:Vl}{aR aS:OA}{R S:LN}{pr:List Qo}{f:Rat}(r2:Row W g2 35 [v0,v1,v2,v3,v4,v5,v6])(hx:∀u∈[v0,v1,v2,v3,v4,v5,v6],zaF u)
  (uR:zaR W aR R)(uS:zaR W aS S)(hV:zad W (.agg #[x2,x3,x4,x5]) f)(hO:zaD W B vC pr)(hg:g2<B) :
  Row (((((((W.setCell (aD_ g2 0) x0).setCell (aD_ g2 1) x1).setCell (aD_ g2 2) x2).setCell (aD_ g2 3) x3).setCell (aD_ g2 4) x4).setCell (aD_ g2 5) x5).setCell (aD_ g2 6) vC) g2 35 [x0,x1,x2,x3,x4,x5,vC] /\
  (zaR (((((((W.setCell (aD_ g2 0) x0).setCell (aD_ g2 1) x1).setCell (aD_ g2 2) x2).setCell (aD_ g2 3) x3).setCell (aD_ g2 4) x4).setCell (aD_ g2 5) x5).setCell (aD_ g2 6) vC) aR R /\
  zaR (((((((W.setCell (aD_ g2 0) x0).setCell (aD_ g2 1) x1).setCell (aD_ g2 2) x2).setCell (aD_ g2 3) x3).setCell (aD_ g2 4) x4).setCell (aD_ g2 5) x5).setCell (aD_ g2 6) vC) aS S /\
  zad (((((((W.setCell (aD_ g2 0) x0).setCell (aD_ g2 1) x1).setCell (aD_ g2 2) x2).setCell (aD_ g2 3) x3).setCell (aD_ g2 4) x4).setCell (aD_ g2 5) x5).setCell (aD_ g2 6) vC) (.agg #[x2,x3,x4,x5]) f /\
  zaD (((((((W.setCell (aD_ g2 0) x0).setCell (aD_ g2 1) x1).setCell (aD_ g2 2) x2).setCell (aD_ g2 3) x3).setCell (aD_ g2 4) x4).setCell (aD_ g2 5) x5).setCell (aD_ g2 6) vC) B vC pr) /\
  ∀B X,B<=g2->Below B X W->Below B X (((((((W.setCell (aD_ g2 0) x0).setCell (aD_ g2 1) x1).setCell (aD_ g2 2) x2).setCell (aD_ g2 3) x3).setCell (aD_ g2 4) x4).setCell (aD_ g2 5) x5).setCell (aD_ g2 6) vC):=by
 have hk:zaf (λb=>b=g2) W (((((((W.setCell (aD_ g2 0) x0).setCell (aD_ g2 1) x1).setCell (aD_ g2 2) x2).setCell (aD_ g2 3) x3).setCell (aD_ g2 4) x4).setCell (aD_ g2 5) x5).setCell (aD_ g2 6) vC) :=
  (((((((zaf.refl W:zaf (λb=>b=g2) W W).setCell (p:=⟨g2,0,none⟩) rfl _).setCell (p:=⟨g2,1,none⟩) rfl _).setCell (p:=⟨g2,2,none⟩) rfl _).setCell (p:=⟨g2,3,none⟩) rfl _).setCell (p:=⟨g2,4,none⟩) rfl _).setCell (p:=⟨g2,5,none⟩) rfl _).setCell (p:=⟨g2,6,none⟩) rfl _
 have hn:=WB.noG r2 hx;exact⟨((((((r2.set 0 x0).set 1 x1).set 2 x2).set 3 x3).set 4 x4).set 5 x5).set 6 vC,⟨uR.kept hk hn,uS.kept hk hn,hV.kept hk hn,hO.kept hk hn (λb e1 e2=>by have:=(hO.lt b e1).1;omega)⟩,λB X hB hb=>hb.trans (hk.below (λb e=>by rw[e];exact hB) (Nat.le_trans hB (Nat.le_of_lt r2.lt)))⟩
theorem zjf{W:Wo}{g B:Nat}(h:NoG (λb=>b=g) W)(hB:W.heap.size<=B):NoG (λb=>b=g\/B<=b) W:=λb hb cur t fr hc=>hb.elim (λe=>h b e cur t fr hc) (λhge=>absurd (zgy hc) (by omega))
def zpr(wa wc:Wo)(g:Nat)(x0:Vl)(S:LN):Prop:=∃aS cS,Row wc g 35 [x0,.slice aS S.length cS,bF_,nS_,bF_,nS_,nS_]/\S.length<=cS/\zaR wc aS S/\zaf (λb=>b=g) wa wc
def WB(W:Wo)(g B:Nat)(x0 x1 x2 x3 x4 x5 vC:Vl)(pr:List Qo):Prop:=Row W g 35 [x0,x1,x2,x3,x4,x5,vC]/\zaD W B vC pr/\g<B
theorem WB.mono{W W':Wo}{g B:Nat}{x0 x1 x2 x3 x4 x5 vC:Vl}{pr:List Qo}(h:WB W g B x0 x1 x2 x3 x4 x5 vC pr)(hb:BH W W'):WB W' g B x0 x1 x2 x3 x4 x5 vC pr :=
 ⟨h.1.below hb,h.2.1.mono hb,h.2.2⟩
theorem WB.putC{W W':Wo}{g B:Nat}{x0 x1 x2 x3 x4 x5 vC:Vl}{a':OA}{n' c':Nat}{pr pr':List Qo}(h:WB W g B x0 x1 x2 x3 x4 x5 vC pr)(hO:zaD W' B (.slice a' n' c') pr')(gr:Grw W W' vC (.slice a' n' c'))(hx:∀u∈[x0,x1,x2,x3,x4,x5,vC],zaF u) :
  Row W' g 35 [x0,x1,x2,x3,x4,x5,vC]/\WB (W'.setCell (aD_ g 6) (.slice a' n' c')) g B x0 x1 x2 x3 x4 x5 (.slice a' n' c') pr'/\NoG (λb=>b=g) W':=by
 obtain⟨h1,h3,h5⟩:=h;have hg:¬vC.ownBlock=some g:=λe=>by have:=(h3.lt g e).1;omega
 have r:=h1.mono gr.kept hg;have hk2:zaf (λb=>b=g) W' (W'.setCell (aD_ g 6) (.slice a' n' c')):=(zaf.refl W':zaf (λb=>b=g) W' W').setCell (p:=⟨g,6,none⟩) rfl _;have hnG:NoG (λb=>b=g) W':=WB.noG r hx;exact⟨r,⟨r.set 6 _,hO.kept hk2 hnG (λb e1 e2=>by have:=(hO.lt b e1).1;omega),h5⟩,hnG⟩
def zn9(w':Wo)(B:Nat)(R S:LN)(f:Rat)(cap:List Rat)(e:Ending):Prop:=∃aR cR aS cS J1 ao1 n1 Y1 K1 ap1 m1 Z1 aC cC,e=.returned (.agg #[.slice aR R.length cR,.slice aS S.length cS,.bool J1,.slice ao1 n1 Y1,.bool K1,.slice ap1 m1 Z1,.slice aC cap.length cC]) /\
 R.length<=cR/\S.length<=cS/\zaR w' aR R/\zaR w' aS S/\zad w' (.agg #[.bool J1,.slice ao1 n1 Y1,.bool K1,.slice ap1 m1 Z1]) f/\zaD w' B (.slice aC cap.length cC) (cap.map some)
theorem zlV(p:Int)(w:Wo)(hp1:-9223372036854775808<=p)(hp2:p<=9223372036854775807)(hE:Env w) :
  CP 46 #[.int .i64 p] w λe w'=>zfc w' (p:Rat) e/\BH w w':=by
 have hbw:=Below.refl w.heap.size w;go_enter func46,ntmps46;go_upto_region 1 with fail;obtain⟨w1,gR,hw9,hg9,hb,rR⟩:=bxr w [bF_,nS_,bF_,nS_] 32;rw[<-hw9,<-hg9];have HgR:Hid (w.heap.size<=gR):=hii (by have:=hbw.size;omega);clear hw9 hg9;have hE:=hE.mono hb;have hbw:=bu hbw hb;clear hb;go_wp2_with fail;go_fit (zd9 p 1 w1 hp1 hp2 (by decide) (by decide) (hii (by decide)) hE);rintro e w2⟨hz,hb⟩;rw[divInt_one]at hz;obtain⟨J1,ao1,n1,Y1,K1,ap1,m1,Z1,rfl,hV⟩:=hz.rat;have rR:=rR.below hb;have hbw:=bu hbw hb;clear hb;clear hz;go_upto_region 2 with fail;obtain⟨w3,g3,hw9,hg9,hb,r3⟩:=bxr w2 [.bool J1,.slice ao1 n1 Y1,.bool K1,.slice ap1 m1 Z1] 32;rw[<-hw9,<-hg9];have Hg3:Hid (w.heap.size<=g3):=hii (by have:=hbw.size;omega);clear hw9 hg9;have hV:=hV.mono hb;have rR:=rR.below hb;have hbw:=bu hbw hb;clear hb;obtain⟨c0,c1,c2,c3⟩:=r3.n4;obtain⟨d0,d1,d2,d3⟩:=rR.n4;have f:=rR.free;go_wp2;obtain⟨q9,hk,hV⟩:=zku rR zlk (.bool J1) (.slice ao1 n1 Y1) (.bool K1) (.slice ap1 m1 Z1) hV;obtain⟨e0,e1,e2,e3⟩:=q9.n4;refine bodyPost_ret (v:=.agg #[.bool J1,.slice ao1 n1 Y1,.bool K1,.slice ap1 m1 Z1]) (by simp[results,Tryz.results46,go_sem,e0,e1,e2,e3]) rfl ⟨zfc.mk hV,?_⟩;exact hbw.trans (hk.below (λb e=>by rw[e];exact HgR.out) hbw.size)
theorem zhb(xN xF:Nat)(lR lW lC:LN)(n:Nat)(hn:Hid (n=2+xN % 4))(aR aW aC:OA)(cR cW cC:Nat)(w:Wo)(hxN:xN<256)(hxF:xF<256)(hlR:lR.length<=9223372036854775807)(hlW:lW.length<=9223372036854775807)(hlC:lC.length<=9223372036854775807)
  (uR:zaR w aR lR)(uW:zaR w aW lW)(uC:ByU w aC lC)(HR:Hid (zaN lR))(HW:Hid (zaN lW))(HC:Hid (∀x∈lC,x<256))(hE:Env w) :
  CP 9 #[.agg #[.int .u8 (xN:Nat),.slice aR lR.length cR,.slice aW lW.length cW,.int .u8 (xF:Nat),.slice aC lC.length cC]] w λe w'=>zn9 w' w.heap.size (zaZ lR n) (wrN (zaZ lR n) (zaZ lW n)) (fN xF) (zen lC n) e/\BH w w':=by
 have hbw:=Below.refl w.heap.size w;have hn1:2<=n/\n<=5:=by rw[hn.out];omega
 have hE0:=hE;have HSR:=hii (λW u=>zg9 lR n aR cR W hlR (by omega) (by omega) u HR);have HSW:=hii (λW u=>zg9 lW n aW cW W hlW (by omega) (by omega) u HW);have HLR:=hii (zb7 lR n);have HLW:=hii (zb7 lW n);obtain⟨R,hR⟩:∃R,zaZ lR n=R:=⟨_,rfl⟩;obtain⟨S0,hS0⟩:∃S,zaZ lW n=S:=⟨_,rfl⟩;rw[hR]at HSR HLR|-;rw[hS0]at HSW HLW|-;clear hR hS0;obtain⟨S,hS⟩:∃S,wrN R S0=S:=⟨_,rfl⟩;have HwS:=hii hS;rw[hS];clear hS;obtain⟨nR,hnR⟩:∃m,lR.length=m:=⟨_,rfl⟩;obtain⟨nW,hnW⟩:∃m,lW.length=m:=⟨_,rfl⟩;obtain⟨nC,hnC⟩:∃m,lC.length=m:=⟨_,rfl⟩;have HnC:=hii hnC;rw[hnR]at hlR HSR|-;rw[hnW]at hlW HSW|-;rw[hnC]at hlC|-;clear hnR hnW hnC;have HfN:Hid (fN xF=Rat.divInt ((xF:Int) % 13) 12):=hii (by unfold fN;push_cast;rfl);have hn2:(2:Int)+(xN:Int) % 4=(n:Int):=by have:=hn.out;omega
 go_enter func9,ntmps9;go_upto_region 1 with fail;obtain⟨wx,hwx,r1,r2,hb⟩:=zaO w 25 35 [.int .u8 (xN:Nat),.slice aR nR cR,.slice aW nW cW,.int .u8 (xF:Nat),.slice aC nC cC] [nS_,nS_,bF_,nS_,bF_,nS_,nS_];simp only[List.toArray]at hwx;rw[<-hwx];clear hwx;obtain⟨w1,rfl⟩:=exi wx;obtain⟨g2,hg2⟩:=exi (w.heap.size+1);have Hg2:Hid (w.heap.size<=g2):=hii (by omega);rw[<-hg2]at r2|-;clear hg2;obtain⟨g1,hg1⟩:=exi (w.heap.size);have Hg1:Hid (w.heap.size<=g1):=hii (by omega);rw[<-hg1]at r1|-;clear hg1;have uR:=uR.mono hb;have uW:=uW.mono hb;have uC:=uC.mono hb;have hE:=hE.mono hb;have hbw:=bu hbw hb;clear hb;obtain⟨c0,c1,c2,c3,c4⟩:=r1.n5;go_upto_region 2 with fail
 try rw[hn2]
 clear c0 c1 c2 c3 c4 hn2;refine zap (wx:=w1) (λ_=>False) [(λ_ X _=>X 0=pT g1 1),(λ_ X _=>X 1=.slice aR nR cR),(λ_ X _=>X 2=.int .i64 (n:Nat)),(λG X W=>((FT R):(Nat->Prop)->Wo->Vl->Prop) G W (X 3)),(λ_ X _=>X 4=pT g1 2),(λ_ X _=>X 5=.slice aW nW cW),(λ_ X _=>X 6=.int .i64 (n:Nat)),(λG X W=>((FT S0):(Nat->Prop)->Wo->Vl->Prop) G W (X 7)),(λG X W=>((λ_ W v=>∃aR1 cR1 aS1 cS1,v=.agg #[.slice aR1 R.length cR1,.slice aS1 S0.length cS1,bF_,nS_,bF_,nS_,nS_]/\R.length<=cR1/\S0.length<=cS1/\zaR W aR1 R/\zaR W aS1 S0):(Nat->Prop)->Wo->Vl->Prop) G W (X 8)),(λ_ _ _=>True),(λ_ _ _=>True)] [some 14,some 15,some 16,some 17,some 18,some 19,some 20,some 21,some 22,some 4,none] [none,none,none,none,none,none,none,none,none,some ⟨10,8,35,[nS_,nS_,bF_,nS_,bF_,nS_,nS_]⟩,none] [14,15,16,17,18,19,20,21,22,4] ⟨(by intro u hu k z e;subst e;simp at hu),trivial⟩ (λb h=>h) br ⟨zab _ _ _,zab _ _ _,zab _ _ _,zjN _,zab _ _ _,zab _ _ _,zab _ _ _,zjN _,(zat (F:=λ_ W v=>∃aR1 cR1 aS1 cS1,v=.agg #[.slice aR1 R.length cR1,.slice aS1 S0.length cS1,bF_,nS_,bF_,nS_,nS_]/\R.length<=cR1/\S0.length<=cS1/\zaR W aR1 R/\zaR W aS1 S0) λG G' W W' v ⟨a,b,c,d,e,h1,h2,h3,h4⟩ hk hn hG=>⟨a,b,c,d,e,h1,h2,h3.kept hk hn,h4.kept hk hn⟩),zan _,zan _,trivial⟩ ⟨⟨λ_ _ _=>trivial,λ_ _ _=>trivial⟩,trivial⟩ ⟨?s0,?s1,?s2,?s3,?s4,?s5,?s6,?s7,?s8,?s9,?s10,trivial⟩ ⟨?b9,trivial⟩ ?he
 case' s0|s1|s2|s3|s4|s5|s6|s7|s8=>
  rintro-G T W hb hHG hGW hGo hNG hA K hK
 case' s0|s2|s4|s6=>
  simp only[sA]at hK|-
 case' s1=>
  have e0:T 14=_:=hA.1;obtain⟨k0,k1,k2,k3,k4⟩:=(r1.below hb).n5;simp only[sA,e0]at hK|-
 case' s5=>
  have e4:T 18=_:=hA.1;obtain⟨k0,k1,k2,k3,k4⟩:=(r1.below hb).n5;simp only[sA,e4]at hK|-
 case s0|s1|s2|s4|s5|s6=>
  have HK:=hii hK;clear hK hA;refine wO rfl ?_;go_simp;exact HK.out _ _ br λX hX _=>hX
 case s3=>
  simp only[sA,f0 T 15 hA,f1 T 16 hA]at hK|-;have HK:=hii hK;clear hK hA;refine wO rfl ?_;go_simp;go_fit (HSR.out W (uR.mono hb));rintro e w1⟨⟨v,rfl,hO⟩,hb1⟩
  try dsimp only
  exact HK.out _ _ (hb1) λX hX _=>by
   show((FT R):(Nat->Prop)->Wo->Vl->Prop) G _ (X 3)
   rw[hX];exact hO.ft
 case s7=>
  simp only[sA,f0 T 19 hA,f1 T 20 hA]at hK|-;have HK:=hii hK;clear hK hA;refine wO rfl ?_;go_simp;go_fit (HSW.out W (uW.mono hb));rintro e w1⟨⟨v,rfl,hO⟩,hb1⟩
  try dsimp only
  exact HK.out _ _ (hb1) λX hX _=>by
   show((FT S0):(Nat->Prop)->Wo->Vl->Prop) G _ (X 7)
   rw[hX];exact hO.ft
 case s8=>
  have r3:((FT R):(Nat->Prop)->Wo->Vl->Prop) G W (T 17):=hA.1;have r7:((FT S0):(Nat->Prop)->Wo->Vl->Prop) G W (T 21):=hA.2.1;obtain⟨aR1,cR1,e3,hcR1,uR1⟩:=r3;obtain⟨aS1,cS1,e7,hcS1,uS1⟩:=r7;simp only[sA,e3,e7]at hK|-;have HK:=hii hK;clear hK hA;refine wO rfl ?_;go_simp;exact HK.out _ _ br λX hX _=>by
   show((λ_ W v=>∃aR1 cR1 aS1 cS1,v=.agg #[.slice aR1 R.length cR1,.slice aS1 S0.length cS1,bF_,nS_,bF_,nS_,nS_]/\R.length<=cR1/\S0.length<=cS1/\zaR W aR1 R/\zaR W aS1 S0):(Nat->Prop)->Wo->Vl->Prop) G _ (X 8)
   rw[hX];exact⟨_,_,_,_,rfl,hcR1,hcS1,uR1,uS1⟩
 case s9=>exact λh=>absurd h (by decide)
 case s10=>exact λh=>absurd h (by decide)
 case b9=>
  refine⟨?_,?_⟩
  ·rintro o ho T W K hK;obtain rfl:=Option.some.inj ho;simp only[sA]at hK|-;have HK:=hii hK;clear hK ho;refine wO rfl ?_;go_simp;exact HK.out
  ·rintro o ho G T W nb hA hp hrow K hK;obtain rfl:=Option.some.inj ho;have ep:T 4=.pointer (sD nb 0):=hp;have r8:((λ_ W v=>∃aR1 cR1 aS1 cS1,v=.agg #[.slice aR1 R.length cR1,.slice aS1 S0.length cS1,bF_,nS_,bF_,nS_,nS_]/\R.length<=cR1/\S0.length<=cS1/\zaR W aR1 R/\zaR W aS1 S0):(Nat->Prop)->Wo->Vl->Prop) G W (T 22):=hA.2.1;obtain⟨aR1,cR1,aS1,cS1,e8,-⟩:=r8;have hK:=hK [.slice aR1 R.length cR1,.slice aS1 S0.length cS1,bF_,nS_,bF_,nS_,nS_] (.inl e8) rfl (by intro u hu k z e;subst e;simp at hu);simp only[sA,ep,e8]at hK|-;have HK:=hii hK;clear hK hA ho;have q0:=hrow.cell (k:=0) (by simp);have f0:=hrow.free 0;have q1:=hrow.cell (k:=1) (by simp);have f1:=hrow.free 1;have q2:=hrow.cell (k:=2) (by simp);have f2:=hrow.free 2;have q3:=hrow.cell (k:=3) (by simp);have f3:=hrow.free 3;have q4:=hrow.cell (k:=4) (by simp);have f4:=hrow.free 4;have q5:=hrow.cell (k:=5) (by simp);have f5:=hrow.free 5;have q6:=hrow.cell (k:=6) (by simp);have f6:=hrow.free 6;simp only[List.getElem_cons_zero,List.getElem_cons_succ]at q0 q1 q2 q3 q4 q5 q6;refine wO rfl ?_;go_simp;exact HK.out
 case he=>
  rintro GG N T W hb hHG hGW hGo hbox hNG hne hA;have f8:((λ_ W v=>∃aR1 cR1 aS1 cS1,v=.agg #[.slice aR1 R.length cR1,.slice aS1 S0.length cS1,bF_,nS_,bF_,nS_,nS_]/\R.length<=cR1/\S0.length<=cS1/\zaR W aR1 R/\zaR W aS1 S0):(Nat->Prop)->Wo->Vl->Prop) GG W (T 22):=hA.at 8 (by decide);obtain⟨ep,_,hge,vs,hsto,hrow⟩:=hbox 9 _ rfl;have ep:T 4=.pointer (some ⟨N 9,0,none⟩):=ep;obtain⟨aR1,cR1,aS1,cS1,e8,hcR1,hcS1,uR1,uS1⟩:=f8;obtain rfl:=hsto.seven e8;simp only[sA,ep];obtain⟨g4,hg⟩:∃g,g=N 9:=⟨_,rfl⟩;rw[<-hg]at hrow hge|-;have Hg4:Hid (w.heap.size<=g4):=hii (Nat.le_trans hbw.size hge);have H42:Hid (g4≠g2/\g4≠g1):=hii (by have:=r1.lt;have:=r2.lt;omega);have uC:=uC.mono hb;have hE:=hE.mono hb;have r1:=r1.below hb;have r2:=r2.below hb;have hbw:=bu hbw hb;clear hb;clear hA hbox hNG hne hHG hGW hGo ep hsto hge hg e8;obtain⟨wa,rfl⟩:=exi W;obtain⟨r,hr⟩:∃r,R.length=r:=⟨_,rfl⟩;obtain⟨s,hs⟩:∃s,S0.length=s:=⟨_,rfl⟩;have Hr:=hii hr;have Hs:=hii hs;rw[hr]at hrow hcR1;rw[hs]at hrow hcS1;have hr3:r<=3:=by rw[<-hr];exact HLR.out
  have hs3:s<=3:=by rw[<-hs];exact HLW.out
  obtain⟨p,hp⟩:∃p,r*s=p:=⟨_,rfl⟩;have hpi:(r:Int)*(s:Int)=(p:Int):=by rw[<-hp];push_cast;rfl
  have hp9:p<=9:=by rw[<-hp];exact Nat.mul_le_mul hr3 hs3
  have HwA:Hid (8<p->S=S0.take 2/\2<=s):=hii λh=>⟨by rw[<-HwS.out];unfold wrN;rw[hr,hs,hp,if_pos h],by
   refine Nat.le_of_not_lt λh1=>?_
   have:=Nat.mul_le_mul hr3 (show s<=1 by omega);omega⟩
  have HwB:Hid (¬8<p->S=S0):=hii λh=>by rw[<-HwS.out];unfold wrN;rw[hr,hs,hp,if_neg h]
  have UR1:=hii uR1;have US1:=hii uS1;clear hr hs hp uR1 uS1;have hrow:Row wa g4 35 [.slice aR1 r cR1,.slice aS1 s cS1,bF_,nS_,bF_,nS_,nS_]:=hrow;obtain⟨k0,k1,k2,k3,k4,k5,k6⟩:=Row.n7 hrow;have q1:=hrow.free 1;have hnw:=WB.noG hrow zm1;have Hnw:=hii hnw;clear hnw;go_upto_if 30 with fail;go_cut [] (λwc=>zpr wa wc g4 (.slice aR1 r cR1) S)
  case first=>
   by_cases h8:8<p
   ·have h8':(8:Int)<(p:Int):=by omega
    have hs2:=(HwA.out h8).2;have HS2:=hii (HwA.out h8).1;have hx0:∃x,S0[0]?=some x:=⟨S0[0]'(by rw[Hs.out];omega),gE _⟩;obtain⟨x0,hx0⟩:=hx0;obtain⟨b0,o0,eS,-⟩:=US1.out 0 x0 hx0;subst eS;clear hx0;have hcS2:(2:Int)<=(cS1:Int):=by omega
    go_wp2_with fail;go_meet;have hl2:S.length=2:=by rw[HS2.out,List.length_take,Hs.out];omega
    refine⟨some ⟨b0,o0,none⟩,cS1,?_,by omega,?_,?_⟩
    ·rw[hl2];exact hrow.set 1 _
    ·have hk:zaf (λb=>b=g4) wa (wa.setCell (aD_ g4 1) (.slice (sD b0 o0) 2 cS1)):=(zaf.refl wa:zaf (λb=>b=g4) wa wa).setCell (p:=⟨g4,1,none⟩) rfl _;rw[HS2.out];exact(US1.out.take 2).kept hk Hnw.out
    ·exact(zaf.refl wa:zaf (λb=>b=g4) wa wa).setCell (p:=⟨g4,1,none⟩) rfl _
   ·have h8':¬(8:Int)<(p:Int):=by omega
    have HS2:=hii (HwB.out h8);go_wp2_with fail;go_meet;have hl2:S.length=s:=by rw[HS2.out,Hs.out]
    refine⟨aS1,cS1,?_,by omega,?_,zaf.refl wa⟩
    ·rw[hl2];exact hrow
    ·rw[HS2.out];exact US1.out
  case rest=>
   obtain⟨aS2,cS2,hrow2,hcS2,uS2,hk2⟩:=hcut;clear k0 k1 k2 k3 k4 k5 k6 q1;have Hne2:Hid (¬g2=g4):=hii (Ne.symm H42.out.1);have Hne1:Hid (¬g1=g4):=hii (Ne.symm H42.out.2);have hw1:w.heap.size<=g4:=Hg4.out;have UR2:=hii (UR1.out.kept hk2 Hnw.out);have hE:=hE0.mono (hbw.trans (hk2.below (λb e=>by rw[e];exact hw1) hbw.size));have hbw:=hbw.trans (hk2.below (λb e=>by rw[e];exact hw1) hbw.size);have uC:=uC.kept hk2 Hnw.out;have r1:=r1.mono hk2 Hne1.out;have r2:=r2.mono hk2 Hne2.out;obtain⟨nS,hnS⟩:∃m,S.length=m:=⟨_,rfl⟩;have HnS:=hii hnS;rw[hnS]at hrow2 hcS2;have US2:=hii uS2;clear hnS uS2 hk2 hrow UR1 US1 Hnw HwA HwB hpi hp9;obtain⟨c0,c1,c2,c3,c4⟩:=r1.n5;go_wp2_with fail;clear c0 c1 c2 c3 c4;go_fit (zd9 ((xF:Int) % 13) 12 wc (by omega) (by omega) (by decide) (by decide) (hii (by decide)) hE);rintro e wd⟨hz,hb⟩;obtain⟨J1,ao1,n1,Y1,K1,ap1,m1,Z1,rfl,hV⟩:=hz.rat;rw[<-HfN.out]at hV;have UR2:=hii (UR2.out.mono hb);have US2:=hii (US2.out.mono hb);have hrow2:=Row.below hrow2 hb;have uC:=uC.mono hb;have hE:=hE.mono hb;have r1:=r1.below hb;have r2:=r2.below hb;have hbw:=bu hbw hb;clear hb;clear hz;have hrow2:Row wd g4 35 [.slice aR1 r cR1,.slice aS2 nS cS2,bF_,nS_,bF_,nS_,nS_]:=hrow2;obtain⟨k0,k1,k2,k3,k4,k5,k6⟩:=Row.n7 hrow2;have q0:=hrow2.free 0;have q2:=hrow2.free 2;have q3:=hrow2.free 3;have q4:=hrow2.free 4;have q5:=hrow2.free 5;have hp4:=WB.put4 hrow2 (.bool J1) (.slice ao1 n1 Y1) (.bool K1) (.slice ap1 m1 Z1);have Hp4:=hii hp4;have Hnd:=hii (WB.noG hrow2 zm1);clear hp4;go_wp2_with fail;clear k0 k1 k2 k3 k4 k5 k6 q0 q2 q3 q4 q5;obtain⟨hrow3,hk3⟩:=Hp4.out;have HV:=hii (hV.kept hk3 Hnd.out);have UR3:=hii (UR2.out.kept hk3 Hnd.out);have US3:=hii (US2.out.kept hk3 Hnd.out);have hbw:=hbw.trans (hk3.below (λb e=>by rw[e];exact hw1) hbw.size);have hE:=hE0.mono hbw;have uC:=uC.kept hk3 Hnd.out;have r1:=r1.mono hk3 Hne1.out;have r2:=r2.mono hk3 Hne2.out;clear hk3 Hp4 Hnd UR2 US2 hV hrow2;generalize ((((wd.setCell (aD_ g4 2) (.bool J1)).setCell (aD_ g4 3) (.slice ao1 n1 Y1)).setCell (aD_ g4 4) (.bool K1)).setCell (aD_ g4 5) (.slice ap1 m1 Z1))=wL at*;have hsL:=hrow3.lt;have hBB:WB wL g4 wL.heap.size (.slice aR1 r cR1) (.slice aS2 nS cS2) (.bool J1) (.slice ao1 n1 Y1) (.bool K1) (.slice ap1 m1 Z1) nS_ (((zen lC 0).map some)):=⟨hrow3,zaD.nil _ _,hsL⟩;have Hnw:=hii (zjf (B:=wL.heap.size) (WB.noG hrow3 zm1) nl);have Hk0:=hii (zaf.refl wL:zaf (λb=>b=g4\/wL.heap.size<=b) wL wL);have Hg2l:Hid (g2<wL.heap.size):=hii r2.lt;have Hg1l:Hid (g1<wL.heap.size):=hii r1.lt;have Hbw:=hii hbw;clear hrow3 hbw hsL;go_wp2_with fail;go_loopw [5] (λs wr=>∃(i:Nat)(vC:Vl),i<=n/\s=.int .i64 i/\WB wr g4 wL.heap.size (.slice aR1 r cR1) (.slice aS2 nS cS2) (.bool J1) (.slice ao1 n1 Y1) (.bool K1) (.slice ap1 m1 Z1) vC ((zen lC i).map some)/\Hid (zaf (λb=>b=g4\/wL.heap.size<=b) wL wr)) (λs _=>n-(intOf s).toNat)
   case atStart=>exact⟨0,_,Nat.zero_le _,rfl,hBB,Hk0⟩
   case round=>
    clear hBB Hk0;obtain⟨i,vC,hi,rfl,hBB,HkL⟩:=hrel;have hbr:BH w wr:=Hbw.out.trans (HkL.out.below (λb e=>e.elim (λh=>by rw[h];exact hw1) (λh=>Nat.le_trans Hbw.out.size h)) Hbw.out.size);have r1k:=r1.mono HkL.out (λe=>e.elim Hne1.out (λh=>by have:=Hg1l.out;omega));obtain⟨aC0,cC0,eC0,-⟩:=hBB.2.1.read
    by_cases hlt:i<n
    ·have hin:(i:Int)<(n:Int):=by omega
     have HQ1:Hid ((zen lC (i+1)).map (some:Rat->Qo)=(zen lC i).map some++[some (Rat.divInt (zf6 lC i) 2)]):=hii (by rw[zjF,List.map_append];rfl);have HKb:Hid (1<=zf6 lC i/\zf6 lC i<=8):=hii ⟨by unfold zf6;omega,by unfold zf6;omega⟩;obtain⟨pr,hpr⟩:∃p,(zen lC i).map (some:Rat->Qo)=p:=⟨_,rfl⟩;have HPl:Hid (pr.length<=100000):=hii (by rw[<-hpr];simp[zen];omega);rw[hpr]at hBB HQ1 eC0;obtain⟨nQ,hnQ⟩:∃m,pr.length=m:=⟨_,rfl⟩;rw[hnQ]at eC0;subst eC0;have hEr:=hE0.mono hbr;clear hpr hnQ
     by_cases hlc:i<nC
     ·obtain⟨x,hx⟩:∃x,lC[i]?=some x:=⟨lC[i]'(by rw[HnC.out];exact hlc),gE _⟩;have hx8:=HC.out x (List.mem_of_getElem? hx);have uCk:=uC.kept HkL.out Hnw.out;obtain⟨bC,oC,eC,hcx⟩:=uCk i x hx;have HK:Hid (zf6 lC i=1+(x:Int) % 8):=hii (by unfold zf6;rw[List.getD_eq_getElem?_getD,hx];rfl);obtain⟨kk,hkk⟩:∃kk,zf6 lC i=kk:=⟨_,rfl⟩;rw[hkk]at HK HQ1 HKb;have hky:(1:Int)+(x:Int) % 8=kk:=HK.out.symm;have hicC:(i:Int)<(nC:Int):=by omega
      subst eC;clear hx uCk hkk HK;obtain⟨c0,c1,c2,c3,c4⟩:=r1k.n5;have Hbx:=hii (Below.refl wr.heap.size wr);go_wp2_with fail
      try rw[hky]
      clear c0 c1 c2 c3 c4 hky hcx;go_fit (zd9 kk 2 wr (by have:=HKb.out.1;omega) (by have:=HKb.out.2;omega) (by decide) (by decide) (hii (by decide)) hEr);rintro e wd⟨hz,hb⟩;obtain⟨J2,ao2,n2,Y2,K2,ap2,m2,Z2,rfl,hvp⟩:=hz.rat;have Hbx:=hii (Below.step Hbx.out hb nl);clear hb hz;go_upto_region 13 with fail;have hbw:=Hbx.out;obtain⟨we,g7,hw9,hg9,hb,r7⟩:=bxr wd [.bool J2,.slice ao2 n2 Y2,.bool K2,.slice ap2 m2 Z2] 32;rw[<-hw9,<-hg9];have Hg7:Hid (wr.heap.size<=g7):=hii (by have:=hbw.size;omega);clear hw9 hg9;have hvp:=hvp.mono hb;have Hbx:=hii (Below.step Hbx.out hb nl);clear hb hbw;have hBB:=hBB.mono Hbx.out;have HkL:=hii (HkL.out.trans (.of_below Hbx.out));have HSB:Hid (wL.heap.size<=we.heap.size):=hii HkL.out.size;have HBB:=hii hBB;obtain⟨y0,y1,y2,y3,y4,y5,y6⟩:=Row.n7 hBB.1;obtain⟨k0,k1,k2,k3⟩:=r7.n4;clear hBB r7 r1k hbr;go_wp2_with (at_builtin;go_loud (refine zjK we we wL.heap.size rfl (.tmp 68) (.tmp 70) rfl rfl rfl HBB.out.2.1 HSB.out br hvp HPl.out ?_);intro a3 n3' c3 w6 W1 hb1 hO2 hb2 gr2;have hP2:=hii ((HBB.out.mono hb1).putC hO2 gr2 zm1);obtain⟨y0,y1,y2,y3,y4,y5,y6⟩:=hP2.out.1.n7;have q0:=hP2.out.1.free 6);have hk5:=hii ((HkL.out.trans (zeU hb2)).setCell (p:=⟨g4,6,none⟩) (.inl rfl) (.slice a3 n3' c3));go_roundw
      case rel=>exact⟨i+1,_,by omega,by go_num,by rw[HQ1.out];exact hP2.out.2.1,hk5⟩
      case measure=>simp[intOf];omega
     ·have HK:Hid (zf6 lC i=1):=hii (by unfold zf6;rw[List.getD_eq_getElem?_getD,List.getElem?_eq_none (by rw[HnC.out];omega)];rfl);obtain⟨kk,hkk⟩:∃kk,zf6 lC i=kk:=⟨_,rfl⟩;rw[hkk]at HQ1 HKb HK;have hk1:kk=1:=HK.out;subst hk1;clear hkk HK;have hicC:¬(i:Int)<(nC:Int):=by omega
      obtain⟨c0,c1,c2,c3,c4⟩:=r1k.n5;have Hbx:=hii (Below.refl wr.heap.size wr);go_wp2_with fail;clear c0 c1 c2 c3 c4;go_fit (zd9 1 2 wr (by have:=HKb.out.1;omega) (by have:=HKb.out.2;omega) (by decide) (by decide) (hii (by decide)) hEr);rintro e wd⟨hz,hb⟩;obtain⟨J2,ao2,n2,Y2,K2,ap2,m2,Z2,rfl,hvp⟩:=hz.rat;have Hbx:=hii (Below.step Hbx.out hb nl);clear hb hz;go_upto_region 13 with fail;have hbw:=Hbx.out;obtain⟨we,g7,hw9,hg9,hb,r7⟩:=bxr wd [.bool J2,.slice ao2 n2 Y2,.bool K2,.slice ap2 m2 Z2] 32;rw[<-hw9,<-hg9];have Hg7:Hid (wr.heap.size<=g7):=hii (by have:=hbw.size;omega);clear hw9 hg9;have hvp:=hvp.mono hb;have Hbx:=hii (Below.step Hbx.out hb nl);clear hb hbw;have hBB:=hBB.mono Hbx.out;have HkL:=hii (HkL.out.trans (.of_below Hbx.out));have HSB:Hid (wL.heap.size<=we.heap.size):=hii HkL.out.size;have HBB:=hii hBB;obtain⟨y0,y1,y2,y3,y4,y5,y6⟩:=Row.n7 hBB.1;obtain⟨k0,k1,k2,k3⟩:=r7.n4;clear hBB r7 r1k hbr;go_wp2_with (at_builtin;go_loud (refine zjK we we wL.heap.size rfl (.tmp 68) (.tmp 70) rfl rfl rfl HBB.out.2.1 HSB.out br hvp HPl.out ?_);intro a3 n3' c3 w6 W1 hb1 hO2 hb2 gr2;have hP2:=hii ((HBB.out.mono hb1).putC hO2 gr2 zm1);obtain⟨y0,y1,y2,y3,y4,y5,y6⟩:=hP2.out.1.n7;have q0:=hP2.out.1.free 6);have hk5:=hii ((HkL.out.trans (zeU hb2)).setCell (p:=⟨g4,6,none⟩) (.inl rfl) (.slice a3 n3' c3));go_roundw
      case rel=>exact⟨i+1,_,by omega,by go_num,by rw[HQ1.out];exact hP2.out.2.1,hk5⟩
      case measure=>simp[intOf];omega
    ·have hin:¬(i:Int)<(n:Int):=by omega
     have hinn:i=n:=by omega
     rw[hinn]at hBB eC0;obtain⟨nQ,hnQ⟩:∃m,((zen lC n).map (some:Rat->Qo)).length=m:=⟨_,rfl⟩;rw[hnQ]at eC0;subst eC0;have r2k:=r2.mono HkL.out (λe=>e.elim Hne2.out (λh=>by have:=Hg2l.out;omega));have hw:=zke (x0:=.slice aR1 r cR1) (x1:=.slice aS2 nS cS2) (x2:=.bool J1) (x3:=.slice ao1 n1 Y1) (x4:=.bool K1) (x5:=.slice ap1 m1 Z1) r2k zm1 (UR3.out.kept HkL.out Hnw.out) (US3.out.kept HkL.out Hnw.out) (HV.out.kept HkL.out Hnw.out) hBB.2.1 Hg2l.out;have Hw:=hii hw;have Hbr:=hii hbr;obtain⟨y0,y1,y2,y3,y4,y5,y6⟩:=Row.n7 hBB.1;have q0:=r2k.free 0;have q1:=r2k.free 1;have q2:=r2k.free 2;have q3:=r2k.free 3;have q4:=r2k.free 4;have q5:=r2k.free 5;have q6:=r2k.free 6;obtain⟨p0,p1,p2,p3,p4,p5,p6⟩:=r2k.n7;clear hw hbr hBB hinn hlt r1k r1 r2 uC hE;go_wp2;clear p0 p1 p2 p3 p4 p5 p6;obtain⟨R1,⟨R2,R3,R4,R5⟩,R6⟩:=Hw.out;obtain⟨p0,p1,p2,p3,p4,p5,p6⟩:=Row.n7 R1;have hnc:(zen lC n).length=nQ:=by rw[<-hnQ,List.length_map]
     refine bodyPost_ret (v:=.agg #[.slice aR1 r cR1,.slice aS2 nS cS2,.bool J1,.slice ao1 n1 Y1,.bool K1,.slice ap1 m1 Z1,.slice aC0 nQ cC0]) (by simp[results,Tryz.results9,go_sem,p0,p1,p2,p3,p4,p5,p6]) rfl ⟨⟨aR1,cR1,aS2,cS2,J1,ao1,n1,Y1,K1,ap1,m1,Z1,aC0,cC0,?_,?_,?_,R2,R3,R4,?_⟩,R6 _ _ Hg2.out Hbr.out⟩
     ·rw[Hr.out,HnS.out,hnc]
     ·rw[Hr.out];exact hcR1
     ·rw[HnS.out];exact hcS2
     ·rw[hnc];exact R5.base Hbw.out.size
def zoO(W:Wo)(g:Nat)(l:List (Nat×Nat))(f:Rat)(cap:List Rat)(m n M:Nat):Prop:=∃J1 ao1 n1 Y1 K1 ap1 m1 Z1 aS nS cS aQ nQ cQ ld Ps Qs,Row W g 39 [.bool J1,.slice ao1 n1 Y1,.bool K1,.slice ap1 m1 Z1,.slice aS nS cS,.slice aQ nQ cQ]/\zmV W (.agg #[.bool J1,.slice ao1 n1 Y1,.bool K1,.slice ap1 m1 Z1,.slice aS nS cS,.slice aQ nQ cQ]) ld (shs l Ps) Qs/\Bal l f cap m n M ld Ps Qs
theorem zoO.mono{W W':Wo}{g:Nat}{l:List (Nat×Nat)}{f:Rat}{cap:List Rat}{m n M:Nat}(h:zoO W g l f cap m n M)(hb:BH W W'):zoO W' g l f cap m n M:=by
 obtain⟨J1,ao1,n1,Y1,K1,ap1,m1,Z1,aS,nS,cS,aQ,nQ,cQ,ld,Ps,Qs,h1,h2,h3⟩:=h;exact⟨J1,ao1,n1,Y1,K1,ap1,m1,Z1,aS,nS,cS,aQ,nQ,cQ,ld,Ps,Qs,h1.below hb,h2.mono hb,h3⟩
end Go.Proofs.YtfgffkmddanjjaaGreatDoor
