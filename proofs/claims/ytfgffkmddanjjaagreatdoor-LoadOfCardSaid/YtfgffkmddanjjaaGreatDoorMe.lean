/-
  The reference: the workload of a case.
-/
import Derived.Test.YtfgffkmddanjjaaGreatDoorMb
set_option linter.unusedVariables false
set_option linter.unusedSimpArgs false
set_option maxRecDepth 100000
set_option maxHeartbeats 25600000
namespace Go.Proofs.YtfgffkmddanjjaaGreatDoor
open _root_.Go.Proofs.Tryz
open Go.RowKit
variable {J1:Bool} {l:LN} {pr:List Qo} {Y1 Z1 g k m1 n1:Nat} {G:Nat->Prop} {aS ao ao1 ap1:OA} {a d e f v vC x0 x1 x2 x3 x4 x5:Vl} {W W' w':Wo}
def ByU(w:Wo)(ao:OA)(l:LN):Prop:=∀(i:Nat)(x:Nat),l[i]?=some x->∃b off,ao=sD b off/\w.cell? ⟨b,off+i,none⟩=some (.int .u8 (x:Nat))
theorem ByU.mono{w:Wo}(h:ByU w ao l)(hb:BH w w'):ByU w' ao l:=λi x hx=>by
 obtain⟨b,off,e,hc⟩:=h i x hx;exact eG
theorem ByU.kept{w:Wo}(h:ByU w ao l)(hk:zah G w w')(hp:NoG G w):ByU w' ao l:=by
 intro i x hi;obtain⟨b,off,e,hc⟩:=h i x hi;refine⟨b,off,e,?_⟩
 by_cases hb:G b
 ·exfalso
  unfold World.cell? at hc;simp only at hc
  cases ho:w.heap[b]? with
  |none=>rw[ho]at hc;simp at hc
  |some ob=>
   rw[ho]at hc
   cases ob with
   |cells cur t fr=>
    exact d7
   |_=>simp at hc
 ·exact hk.cell hc hb
def FT(l:LN)(_:Nat->Prop)(W:Wo)(v:Vl):Prop:=∃ao cap,v=.slice ao l.length cap/\l.length<=cap/\zaF W ao l
theorem zki{ops:Array Oper}(l:LN):zlK (zeR ops k) (λG X W=>FT l G W (X k)):=zaq λG G' W W' v h hk hn _=>by
 obtain⟨ao,cap,e,hc,hu⟩:=h;exact⟨ao,cap,e,hc,hu.kept hk hn⟩
theorem zb6.ft{w:Wo}{B:Nat}(h:zb6 w B v l):FT l G w v:=by
 obtain⟨ao,cap,e,hc,hu⟩:=h.read;exact⟨ao,cap,e,hc,hu⟩
theorem Row.n7{w:Wo}{E:TypeId}{b c x:Vl}(h:Row w g E [a,b,c,d,e,f,x]):w.cell? (aD_ g 0)=some a/\w.cell? (aD_ g 1)=some b/\w.cell? (aD_ g 2)=some c/\w.cell? (aD_ g 3)=some d/\w.cell? (aD_ g 4)=some e/\w.cell? (aD_ g 5)=some f/\w.cell? (aD_ g 6)=some x :=
 ⟨h.cell (k:=0) sM,h.cell (k:=1) sM,h.cell (k:=2) sM,h.cell (k:=3) sM,h.cell (k:=4) sM,h.cell (k:=5) sM,h.cell (k:=6) sM⟩
theorem zma.seven{b c x:Vl}{vs:List Vl}(h:zma v 7 vs)(h1:v=.agg #[a,b,c,d,e,f,x]):vs=[a,b,c,d,e,f,x]:=by
 rcases h.1 with h2|h2
 ·rw[h1]at h2;simp only[Value.agg.injEq]at h2;have:=congrArg Array.toList h2
  simpa using this.symm
 ·have:=h.2;rw[h2]at this;simp at this
theorem znE{a b f:OA}{n2 n3 n4 n5 n6:Nat}{x0 x1:Bool}{c d:OA}{n7 n8 n9 n10:Nat}:∀u∈[Value.slice a n1 n2,.slice b n3 n4,.bool x0,.slice c n7 n8,.bool x1,.slice d n9 n10,.slice f n5 n6],zaJ u:=by
 intro u hu;simp at hu;rcases hu with rfl|rfl|rfl|rfl|rfl|rfl|rfl<;>(intro k z e;cases e)
theorem WB.noG{E:TypeId}{xs:List Vl}(r:Row W g E xs)(hx:∀u∈xs,zaJ u):NoG (λb=>b=g) W:=by
 exact eI
theorem WB.put4{x6:Vl}(r:Row W g 35 [x0,x1,x2,x3,x4,x5,x6])(y0 y1 y2 y3:Vl) :
  Row ((((W.setCell (aD_ g 2) y0).setCell (aD_ g 3) y1).setCell (aD_ g 4) y2).setCell (aD_ g 5) y3) g 35 [x0,x1,y0,y1,y2,y3,x6] /\
  zah (λb=>b=g) W ((((W.setCell (aD_ g 2) y0).setCell (aD_ g 3) y1).setCell (aD_ g 4) y2).setCell (aD_ g 5) y3) :=
 ⟨(((r.set 2 y0).set 3 y1).set 4 y2).set 5 y3,((((zah.refl W:zah (λb=>b=g) W W).setCell (p:=⟨g,2,none⟩) rfl _).setCell (p:=⟨g,3,none⟩) rfl _).setCell (p:=⟨g,4,none⟩) rfl _).setCell (p:=⟨g,5,none⟩) rfl _⟩
theorem zkK{g2 B:Nat}{v0 v1 v2 v3 v4 v5 v6:Vl}{aR:OA}{R S:LN}{f:Rat}(r2:Row W g2 35 [v0,v1,v2,v3,v4,v5,v6])(hx:∀u∈[v0,v1,v2,v3,v4,v5,v6],zaJ u)
  (uR:zaF W aR R)(uS:zaF W aS S)(hV:zad W (.agg #[x2,x3,x4,x5]) f)(hO:zaI W B vC pr)(hg:g2<B) :
  Row (((((((W.setCell (aD_ g2 0) x0).setCell (aD_ g2 1) x1).setCell (aD_ g2 2) x2).setCell (aD_ g2 3) x3).setCell (aD_ g2 4) x4).setCell (aD_ g2 5) x5).setCell (aD_ g2 6) vC) g2 35 [x0,x1,x2,x3,x4,x5,vC] /\
  (zaF (((((((W.setCell (aD_ g2 0) x0).setCell (aD_ g2 1) x1).setCell (aD_ g2 2) x2).setCell (aD_ g2 3) x3).setCell (aD_ g2 4) x4).setCell (aD_ g2 5) x5).setCell (aD_ g2 6) vC) aR R /\
  zaF (((((((W.setCell (aD_ g2 0) x0).setCell (aD_ g2 1) x1).setCell (aD_ g2 2) x2).setCell (aD_ g2 3) x3).setCell (aD_ g2 4) x4).setCell (aD_ g2 5) x5).setCell (aD_ g2 6) vC) aS S /\
  zad (((((((W.setCell (aD_ g2 0) x0).setCell (aD_ g2 1) x1).setCell (aD_ g2 2) x2).setCell (aD_ g2 3) x3).setCell (aD_ g2 4) x4).setCell (aD_ g2 5) x5).setCell (aD_ g2 6) vC) (.agg #[x2,x3,x4,x5]) f /\
  zaI (((((((W.setCell (aD_ g2 0) x0).setCell (aD_ g2 1) x1).setCell (aD_ g2 2) x2).setCell (aD_ g2 3) x3).setCell (aD_ g2 4) x4).setCell (aD_ g2 5) x5).setCell (aD_ g2 6) vC) B vC pr) /\
  ∀B X,B<=g2->Below B X W->Below B X (((((((W.setCell (aD_ g2 0) x0).setCell (aD_ g2 1) x1).setCell (aD_ g2 2) x2).setCell (aD_ g2 3) x3).setCell (aD_ g2 4) x4).setCell (aD_ g2 5) x5).setCell (aD_ g2 6) vC):=by
 have hk:zah (λb=>b=g2) W (((((((W.setCell (aD_ g2 0) x0).setCell (aD_ g2 1) x1).setCell (aD_ g2 2) x2).setCell (aD_ g2 3) x3).setCell (aD_ g2 4) x4).setCell (aD_ g2 5) x5).setCell (aD_ g2 6) vC) :=
  (((((((zah.refl W:zah (λb=>b=g2) W W).setCell (p:=⟨g2,0,none⟩) rfl _).setCell (p:=⟨g2,1,none⟩) rfl _).setCell (p:=⟨g2,2,none⟩) rfl _).setCell (p:=⟨g2,3,none⟩) rfl _).setCell (p:=⟨g2,4,none⟩) rfl _).setCell (p:=⟨g2,5,none⟩) rfl _).setCell (p:=⟨g2,6,none⟩) rfl _
 have hn:=WB.noG r2 hx;exact⟨((((((r2.set 0 x0).set 1 x1).set 2 x2).set 3 x3).set 4 x4).set 5 x5).set 6 vC,⟨uR.kept hk hn,uS.kept hk hn,hV.kept hk hn,hO.kept hk hn (λb e1 e2=>by have:=(hO.lt b e1).1;omega)⟩,λB X hB hb=>hb.trans (hk.below (λb e=>by rw[e];exact hB) (Nat.le_trans hB (Nat.le_of_lt r2.lt)))⟩
theorem zjI{B:Nat}(h:NoG (λb=>b=g) W)(hB:W.heap.size<=B):NoG (λb=>b=g\/B<=b) W:=λb hb cur t fr hc=>hb.elim (λe=>h b e cur t fr hc) (λhge=>absurd (zg1 hc) oM)
def zp1(wa wc:Wo)(g:Nat)(x0:Vl)(S:LN):Prop:=∃aS cS,Row wc g 35 [x0,.slice aS S.length cS,bF_,nS_,bF_,nS_,nS_]/\S.length<=cS/\zaF wc aS S/\zah (λb=>b=g) wa wc
def WB(W:Wo)(g B:Nat)(x0 x1 x2 x3 x4 x5 vC:Vl)(pr:List Qo):Prop:=Row W g 35 [x0,x1,x2,x3,x4,x5,vC]/\zaI W B vC pr/\g<B
theorem WB.mono{B:Nat}(h:WB W g B x0 x1 x2 x3 x4 x5 vC pr)(hb:BH W W'):WB W' g B x0 x1 x2 x3 x4 x5 vC pr :=
 ⟨h.1.below hb,h.2.1.mono hb,h.2.2⟩
theorem WB.putC{B:Nat}{a':OA}{n' c':Nat}{pr':List Qo}(h:WB W g B x0 x1 x2 x3 x4 x5 vC pr)(hO:zaI W' B (.slice a' n' c') pr')(gr:Grw W W' vC (.slice a' n' c'))(hx:∀u∈[x0,x1,x2,x3,x4,x5,vC],zaJ u) :
  Row W' g 35 [x0,x1,x2,x3,x4,x5,vC]/\WB (W'.setCell (aD_ g 6) (.slice a' n' c')) g B x0 x1 x2 x3 x4 x5 (.slice a' n' c') pr'/\NoG (λb=>b=g) W':=by
 obtain⟨h1,h3,h5⟩:=h;have hg:¬vC.ownBlock=some g:=λe=>by have:=(h3.lt g e).1;omega
 have r:=h1.mono gr.kept hg;have hk2:zah (λb=>b=g) W' (W'.setCell (aD_ g 6) (.slice a' n' c')):=(zah.refl W':zah (λb=>b=g) W' W').setCell (p:=⟨g,6,none⟩) rfl _;have hnG:NoG (λb=>b=g) W':=WB.noG r hx;exact⟨r,⟨r.set 6 _,hO.kept hk2 hnG (λb e1 e2=>by have:=(hO.lt b e1).1;omega),h5⟩,hnG⟩
def zpp(w':Wo)(B:Nat)(R S:LN)(f:Rat)(cap:List Rat)(e:Ending):Prop:=∃aR cR aS cS J1 ao1 n1 Y1 K1 ap1 m1 Z1 aC cC,e=.returned (.agg #[.slice aR R.length cR,.slice aS S.length cS,.bool J1,.slice ao1 n1 Y1,.bool K1,.slice ap1 m1 Z1,.slice aC cap.length cC]) /\
 R.length<=cR/\S.length<=cS/\zaF w' aR R/\zaF w' aS S/\zad w' (.agg #[.bool J1,.slice ao1 n1 Y1,.bool K1,.slice ap1 m1 Z1]) f/\zaI w' B (.slice aC cap.length cC) (cap.map some)
theorem zbT(p:Int)(w:Wo)(hp1:-9223372036854775808<=p)(hp2:p<=9223372036854775807)(hE:Env w) :
  CP 46 #[.int .i64 p] w λe w'=>zd7 w' (p:Rat) e/\BH w w':=by
 have hbw:=Below.refl w.heap.size w;go_enter func46,ntmps46;go_upto_region 1 with fail;obtain⟨w1,gR,hw9,hg9,hb,rR⟩:=bxr w [bF_,nS_,bF_,nS_] 32;rw[<-hw9,<-hg9];have HgR:Hid (w.heap.size<=gR):=hii (by have:=hbw.size;omega);clear hw9 hg9;have hE:=hE.mono hb;have hbw:=bu hbw hb;clear hb;go_wp2_with fail;go_fit (zes p 1 w1 hp1 hp2 dM dM (hii dM) hE);rintro e w2⟨hz,hb⟩;rw[divInt_one]at hz;obtain⟨J1,ao1,n1,Y1,K1,ap1,m1,Z1,rfl,hV⟩:=hz.rat;have rR:=rR.below hb;have hbw:=bu hbw hb;clear hb;clear hz;go_upto_region 2 with fail;obtain⟨w3,g3,hw9,hg9,hb,r3⟩:=bxr w2 [.bool J1,.slice ao1 n1 Y1,.bool K1,.slice ap1 m1 Z1] 32;rw[<-hw9,<-hg9];have Hg3:Hid (w.heap.size<=g3):=hii (by have:=hbw.size;omega);clear hw9 hg9;have hV:=hV.mono hb;have rR:=rR.below hb;have hbw:=bu hbw hb;clear hb;obtain⟨c0,c1,c2,c3⟩:=r3.n4;obtain⟨d0,d1,d2,d3⟩:=rR.n4;have f:=rR.free;go_wp2;obtain⟨q9,hk,hV⟩:=zfy rR zhK (.bool J1) (.slice ao1 n1 Y1) (.bool K1) (.slice ap1 m1 Z1) hV;obtain⟨e0,e1,e2,e3⟩:=q9.n4;refine bodyPost_ret (v:=.agg #[.bool J1,.slice ao1 n1 Y1,.bool K1,.slice ap1 m1 Z1]) (by simp[results,Tryz.results46,go_sem,e0,e1,e2,e3]) rfl ⟨zd7.mk hV,?_⟩;exact cT
theorem zk1(xN xF:Nat)(lR lW lC:LN)(n:Nat)(hn:Hid (n=2+xN % 4))(aR aW aC:OA)(cR cW cC:Nat)(w:Wo)(hxN:xN<256)(hxF:xF<256)(hlR:lR.length<=9223372036854775807)(hlW:lW.length<=9223372036854775807)(hlC:lC.length<=9223372036854775807)
  (uR:zaF w aR lR)(uW:zaF w aW lW)(uC:ByU w aC lC)(HR:Hid (zaR lR))(HW:Hid (zaR lW))(HC:Hid (∀x∈lC,x<256))(hE:Env w) :
  CP 9 #[.agg #[.int .u8 (xN:Nat),.slice aR lR.length cR,.slice aW lW.length cW,.int .u8 (xF:Nat),.slice aC lC.length cC]] w λe w'=>zpp w' w.heap.size (zb5 lR n) (wrN (zb5 lR n) (zb5 lW n)) (fN xF) (zfz lC n) e/\BH w w':=by
 have hbw:=Below.refl w.heap.size w;have hn1:2<=n/\n<=5:=by rw[hn.o];omega
 have hE0:=hE;have HSR:=hii (λW u=>zhB lR n aR cR W hlR oM oM u HR);have HSW:=hii (λW u=>zhB lW n aW cW W hlW oM oM u HW);have HLR:=hii (zcd lR n);have HLW:=hii (zcd lW n);obtain⟨R,hR⟩:∃R,zb5 lR n=R:=⟨_,rfl⟩;obtain⟨S0,hS0⟩:∃S,zb5 lW n=S:=⟨_,rfl⟩;rw[hR]at HSR HLR|-;rw[hS0]at HSW HLW|-;clear hR hS0;obtain⟨S,hS⟩:∃S,wrN R S0=S:=⟨_,rfl⟩;have HwS:=hii hS;rw[hS];clear hS;obtain⟨nR,hnR⟩:∃m,lR.length=m:=⟨_,rfl⟩;obtain⟨nW,hnW⟩:∃m,lW.length=m:=⟨_,rfl⟩;obtain⟨nC,hnC⟩:∃m,lC.length=m:=⟨_,rfl⟩;have HnC:=hii hnC;rw[hnR]at hlR HSR|-;rw[hnW]at hlW HSW|-;rw[hnC]at hlC|-;clear hnR hnW hnC;have HfN:Hid (fN xF=Rat.divInt ((xF:Int) % 13) 12):=hii (by unfold fN;push_cast;rfl);have hn2:(2:Int)+(xN:Int) % 4=(n:Int):=by have:=hn.o;omega
 go_enter func9,ntmps9;go_upto_region 1 with fail;obtain⟨wx,hwx,r1,r2,hb⟩:=zaH w 25 35 [.int .u8 (xN:Nat),.slice aR nR cR,.slice aW nW cW,.int .u8 (xF:Nat),.slice aC nC cC] [nS_,nS_,bF_,nS_,bF_,nS_,nS_];simp only[List.toArray]at hwx;rw[<-hwx];clear hwx;obtain⟨w1,rfl⟩:=exi wx;obtain⟨g2,hg2⟩:=exi (w.heap.size+1);have Hg2:Hid (w.heap.size<=g2):=hii oM;rw[<-hg2]at r2|-;clear hg2;obtain⟨g1,hg1⟩:=exi (w.heap.size);have Hg1:Hid (w.heap.size<=g1):=hii oM;rw[<-hg1]at r1|-;clear hg1;have uR:=uR.mono hb;have uW:=uW.mono hb;have uC:=uC.mono hb;have hE:=hE.mono hb;have hbw:=bu hbw hb;clear hb;obtain⟨c0,c1,c2,c3,c4⟩:=r1.n5;go_upto_region 2 with fail
 try rw[hn2]
 clear c0 c1 c2 c3 c4 hn2;refine zan (wx:=w1) (λ_=>False) [(λ_ X _=>X 0=pT g1 1),(λ_ X _=>X 1=.slice aR nR cR),(λ_ X _=>X 2=.int .i64 (n:Nat)),(λG X W=>((FT R):FV) G W (X 3)),(λ_ X _=>X 4=pT g1 2),(λ_ X _=>X 5=.slice aW nW cW),(λ_ X _=>X 6=.int .i64 (n:Nat)),(λG X W=>((FT S0):FV) G W (X 7)),(λG X W=>((λ_ W v=>∃aR1 cR1 aS1 cS1,v=.agg #[.slice aR1 R.length cR1,.slice aS1 S0.length cS1,bF_,nS_,bF_,nS_,nS_]/\R.length<=cR1/\S0.length<=cS1/\zaF W aR1 R/\zaF W aS1 S0):FV) G W (X 8)),(λ_ _ _=>True),(λ_ _ _=>True)] [some 14,some 15,some 16,some 17,some 18,some 19,some 20,some 21,some 22,some 4,none] [none,none,none,none,none,none,none,none,none,some ⟨10,8,35,[nS_,nS_,bF_,nS_,bF_,nS_,nS_]⟩,none] [14,15,16,17,18,19,20,21,22,4] ⟨(by intro u hu k z e;subst e;simp at hu),trivial⟩ (λb h=>h) br ⟨zaa _ _ _,zaa _ _ _,zaa _ _ _,zki _,zaa _ _ _,zaa _ _ _,zaa _ _ _,zki _,(zaq (F:=λ_ W v=>∃aR1 cR1 aS1 cS1,v=.agg #[.slice aR1 R.length cR1,.slice aS1 S0.length cS1,bF_,nS_,bF_,nS_,nS_]/\R.length<=cR1/\S0.length<=cS1/\zaF W aR1 R/\zaF W aS1 S0) λG G' W W' v ⟨a,b,c,d,e,h1,h2,h3,h4⟩ hk hn hG=>⟨a,b,c,d,e,h1,h2,h3.kept hk hn,h4.kept hk hn⟩),zaj _,zaj _,trivial⟩ ⟨⟨λ_ _ _=>trivial,λ_ _ _=>trivial⟩,trivial⟩ ⟨tX,?s1,tX,?s3,tX,?s5,tX,?s7,?s8,?s9,?s10,trivial⟩ ⟨?b9,trivial⟩ ?he
 case' s1|s3|s5|s7|s8=>
  rintro-G T W hb hHG hGW hGo hNG hA K hK;simp only[yA,yB,Region.binds]at hA;simp only[sA,hA]at hK|-
 case' s1|s3|s5|s7=>
  have HK:=hii hK;clear hK hA
 case s1|s5=>
  obtain⟨k0,k1,k2,k3,k4⟩:=(r1.below hb).n5;exact cK
 case s3=>
  refine wO rfl ?_;go_simp;go_fit (HSR.o W (uR.mono hb));rintro e w1⟨⟨v,rfl,hO⟩,hb1⟩
  try dsimp only
  exact HK.o _ _ (hb1) λX hX _=>by
   show((FT R):FV) G _ (X 3)
   rw[hX];exact hO.ft
 case s7=>
  refine wO rfl ?_;go_simp;go_fit (HSW.o W (uW.mono hb));rintro e w1⟨⟨v,rfl,hO⟩,hb1⟩
  try dsimp only
  exact HK.o _ _ (hb1) λX hX _=>by
   show((FT S0):FV) G _ (X 7)
   rw[hX];exact hO.ft
 case s8=>
  have r3:((FT R):FV) G W (T 17):=hA.1;have r7:((FT S0):FV) G W (T 21):=hA.2.1;obtain⟨aR1,cR1,e3,hcR1,uR1⟩:=r3;obtain⟨aS1,cS1,e7,hcS1,uS1⟩:=r7;simp only[e3,e7]at hK|-;have HK:=hii hK;clear hK hA;refine wO rfl ?_;go_simp;exact HK.o _ _ br λX hX _=>by
   show((λ_ W v=>∃aR1 cR1 aS1 cS1,v=.agg #[.slice aR1 R.length cR1,.slice aS1 S0.length cS1,bF_,nS_,bF_,nS_,nS_]/\R.length<=cR1/\S0.length<=cS1/\zaF W aR1 R/\zaF W aS1 S0):FV) G _ (X 8)
   rw[hX];exact⟨_,_,_,_,rfl,hcR1,hcS1,uR1,uS1⟩
 case s9=>exact λh=>absurd h dM
 case s10=>exact λh=>absurd h dM
 case b9=>
  refine⟨?_,?_⟩
  ·exact cG
  ·rintro o ho G T W nb hA hp hrow K hK;obtain rfl:=Option.some.inj ho;have ep:T 4=.pointer (sD nb 0):=hp;have r8:((λ_ W v=>∃aR1 cR1 aS1 cS1,v=.agg #[.slice aR1 R.length cR1,.slice aS1 S0.length cS1,bF_,nS_,bF_,nS_,nS_]/\R.length<=cR1/\S0.length<=cS1/\zaF W aR1 R/\zaF W aS1 S0):FV) G W (T 22):=hA.2.1;obtain⟨aR1,cR1,aS1,cS1,e8,-⟩:=r8;have hK:=hK [.slice aR1 R.length cR1,.slice aS1 S0.length cS1,bF_,nS_,bF_,nS_,nS_] (.inl e8) rfl (by intro u hu k z e;subst e;simp at hu);simp only[sA,ep,e8]at hK|-;have HK:=hii hK;clear hK hA ho;have q0:=hrow.cell (k:=0) sM;have f0:=hrow.free 0;have q1:=hrow.cell (k:=1) sM;have f1:=hrow.free 1;have q2:=hrow.cell (k:=2) sM;have f2:=hrow.free 2;have q3:=hrow.cell (k:=3) sM;have f3:=hrow.free 3;have q4:=hrow.cell (k:=4) sM;have f4:=hrow.free 4;have q5:=hrow.cell (k:=5) sM;have f5:=hrow.free 5;have q6:=hrow.cell (k:=6) sM;have f6:=hrow.free 6;simp only[List.getElem_cons_zero,List.getElem_cons_succ]at q0 q1 q2 q3 q4 q5 q6;refine wO rfl ?_;go_simp;exact HK.o
 case he=>
  rintro GG N T W hb hHG hGW hGo hbox hNG hne hA;have f8:((λ_ W v=>∃aR1 cR1 aS1 cS1,v=.agg #[.slice aR1 R.length cR1,.slice aS1 S0.length cS1,bF_,nS_,bF_,nS_,nS_]/\R.length<=cR1/\S0.length<=cS1/\zaF W aR1 R/\zaF W aS1 S0):FV) GG W (T 22):=hA.at 8 dM;obtain⟨ep,_,hge,vs,hsto,hrow⟩:=hbox 9 _ rfl;have ep:T 4=.pointer (some ⟨N 9,0,none⟩):=ep;obtain⟨aR1,cR1,aS1,cS1,e8,hcR1,hcS1,uR1,uS1⟩:=f8;obtain rfl:=hsto.seven e8;simp only[sA,ep];obtain⟨g4,hg⟩:∃g,g=N 9:=⟨_,rfl⟩;rw[<-hg]at hrow hge|-;have Hg4:Hid (w.heap.size<=g4):=hii (Nat.le_trans hbw.size hge);have H42:Hid (g4≠g2/\g4≠g1):=hii (by have:=r1.lt;have:=r2.lt;omega);have uC:=uC.mono hb;have hE:=hE.mono hb;have r1:=r1.below hb;have r2:=r2.below hb;have hbw:=bu hbw hb;clear hb;clear hA hbox hNG hne hHG hGW hGo ep hsto hge hg e8;obtain⟨wa,rfl⟩:=exi W;obtain⟨r,hr⟩:∃r,R.length=r:=⟨_,rfl⟩;obtain⟨s,hs⟩:∃s,S0.length=s:=⟨_,rfl⟩;have Hr:=hii hr;have Hs:=hii hs;rw[hr]at hrow hcR1;rw[hs]at hrow hcS1;have hr3:r<=3:=by rw[<-hr];exact HLR.o
  have hs3:s<=3:=by rw[<-hs];exact HLW.o
  obtain⟨p,hp⟩:∃p,r*s=p:=⟨_,rfl⟩;have hpi:(r:Int)*(s:Int)=(p:Int):=by rw[<-hp];push_cast;rfl
  have hp9:p<=9:=by rw[<-hp];exact Nat.mul_le_mul hr3 hs3
  have HwA:Hid (8<p->S=S0.take 2/\2<=s):=hii λh=>⟨by rw[<-HwS.o];unfold wrN;rw[hr,hs,hp,if_pos h],by
   refine Nat.le_of_not_lt λh1=>?_
   have:=Nat.mul_le_mul hr3 (show s<=1 by omega);omega⟩
  have HwB:Hid (¬8<p->S=S0):=hii λh=>by rw[<-HwS.o];unfold wrN;rw[hr,hs,hp,if_neg h]
  have UR1:=hii uR1;have US1:=hii uS1;clear hr hs hp uR1 uS1;have hrow:Row wa g4 35 [.slice aR1 r cR1,.slice aS1 s cS1,bF_,nS_,bF_,nS_,nS_]:=hrow;obtain⟨k0,k1,k2,k3,k4,k5,k6⟩:=Row.n7 hrow;have q1:=hrow.free 1;have hnw:=WB.noG hrow znE;have Hnw:=hii hnw;clear hnw;go_upto_if 30 with fail;go_cut [] (λwc=>zp1 wa wc g4 (.slice aR1 r cR1) S)
  case first=>
   by_cases h8:8<p
   ·have h8':(8:Int)<(p:Int):=oM;have hs2:=(HwA.o h8).2;have HS2:=hii (HwA.o h8).1;have hx0:∃x,S0[0]?=some x:=⟨S0[0]'(by rw[Hs.o];omega),gE _⟩;obtain⟨x0,hx0⟩:=hx0;obtain⟨b0,o0,eS,-⟩:=US1.o 0 x0 hx0;subst eS;clear hx0;have hcS2:(2:Int)<=(cS1:Int):=oM;go_wp2_with fail;go_meet;have hl2:S.length=2:=by rw[HS2.o,List.length_take,Hs.o];omega
    refine⟨some ⟨b0,o0,none⟩,cS1,?_,oM,?_,?_⟩
    ·rw[hl2];exact hrow.set 1 _
    ·have hk:zah (λb=>b=g4) wa (wa.setCell (aD_ g4 1) (.slice (sD b0 o0) 2 cS1)):=(zah.refl wa:zah (λb=>b=g4) wa wa).setCell (p:=⟨g4,1,none⟩) rfl _;rw[HS2.o];exact(US1.o.take 2).kept hk Hnw.o
    ·exact(zah.refl wa:zah (λb=>b=g4) wa wa).setCell (p:=⟨g4,1,none⟩) rfl _
   ·have h8':¬(8:Int)<(p:Int):=oM;have HS2:=hii (HwB.o h8);go_wp2_with fail;go_meet;have hl2:S.length=s:=by rw[HS2.o,Hs.o]
    refine⟨aS1,cS1,?_,oM,?_,zah.refl wa⟩
    ·rw[hl2];exact hrow
    ·rw[HS2.o];exact US1.o
  case rest=>
   obtain⟨aS2,cS2,hrow2,hcS2,uS2,hk2⟩:=hcut;clear k0 k1 k2 k3 k4 k5 k6 q1;have Hne2:Hid (¬g2=g4):=hii (Ne.symm H42.o.1);have Hne1:Hid (¬g1=g4):=hii (Ne.symm H42.o.2);have hw1:w.heap.size<=g4:=Hg4.o;have UR2:=hii (UR1.o.kept hk2 Hnw.o);have hE:=hE0.mono (hbw.trans (hk2.below (λb e=>by rw[e];exact hw1) hbw.size));have hbw:=hbw.trans (hk2.below (λb e=>by rw[e];exact hw1) hbw.size);have uC:=uC.kept hk2 Hnw.o;have r1:=r1.mono hk2 Hne1.o;have r2:=r2.mono hk2 Hne2.o;obtain⟨nS,hnS⟩:∃m,S.length=m:=⟨_,rfl⟩;have HnS:=hii hnS;rw[hnS]at hrow2 hcS2;have US2:=hii uS2;clear hnS uS2 hk2 hrow UR1 US1 Hnw HwA HwB hpi hp9;obtain⟨c0,c1,c2,c3,c4⟩:=r1.n5;go_wp2_with fail;clear c0 c1 c2 c3 c4;go_fit (zes ((xF:Int) % 13) 12 wc oM oM dM dM (hii dM) hE);rintro e wd⟨hz,hb⟩;obtain⟨J1,ao1,n1,Y1,K1,ap1,m1,Z1,rfl,hV⟩:=hz.rat;rw[<-HfN.o]at hV;have UR2:=hii (UR2.o.mono hb);have US2:=hii (US2.o.mono hb);have hrow2:=Row.below hrow2 hb;have uC:=uC.mono hb;have hE:=hE.mono hb;have r1:=r1.below hb;have r2:=r2.below hb;have hbw:=bu hbw hb;clear hb;clear hz;have hrow2:Row wd g4 35 [.slice aR1 r cR1,.slice aS2 nS cS2,bF_,nS_,bF_,nS_,nS_]:=hrow2;obtain⟨k0,k1,k2,k3,k4,k5,k6⟩:=Row.n7 hrow2;have q0:=hrow2.free 0;have q2:=hrow2.free 2;have q3:=hrow2.free 3;have q4:=hrow2.free 4;have q5:=hrow2.free 5;have hp4:=WB.put4 hrow2 (.bool J1) (.slice ao1 n1 Y1) (.bool K1) (.slice ap1 m1 Z1);have Hp4:=hii hp4;have Hnd:=hii (WB.noG hrow2 znE);clear hp4;go_wp2_with fail;clear k0 k1 k2 k3 k4 k5 k6 q0 q2 q3 q4 q5;obtain⟨hrow3,hk3⟩:=Hp4.o;have HV:=hii (hV.kept hk3 Hnd.o);have UR3:=hii (UR2.o.kept hk3 Hnd.o);have US3:=hii (US2.o.kept hk3 Hnd.o);have hbw:=hbw.trans (hk3.below (λb e=>by rw[e];exact hw1) hbw.size);have hE:=hE0.mono hbw;have uC:=uC.kept hk3 Hnd.o;have r1:=r1.mono hk3 Hne1.o;have r2:=r2.mono hk3 Hne2.o;clear hk3 Hp4 Hnd UR2 US2 hV hrow2;generalize ((((wd.setCell (aD_ g4 2) (.bool J1)).setCell (aD_ g4 3) (.slice ao1 n1 Y1)).setCell (aD_ g4 4) (.bool K1)).setCell (aD_ g4 5) (.slice ap1 m1 Z1))=wL at*;have hsL:=hrow3.lt;have hBB:WB wL g4 wL.heap.size (.slice aR1 r cR1) (.slice aS2 nS cS2) (.bool J1) (.slice ao1 n1 Y1) (.bool K1) (.slice ap1 m1 Z1) nS_ (((zfz lC 0).map some)):=⟨hrow3,zaI.nil _ _,hsL⟩;have Hnw:=hii (zjI (B:=wL.heap.size) (WB.noG hrow3 znE) nl);have Hk0:=hii (zah.refl wL:zah (λb=>b=g4\/wL.heap.size<=b) wL wL);have Hg2l:Hid (g2<wL.heap.size):=hii r2.lt;have Hg1l:Hid (g1<wL.heap.size):=hii r1.lt;have Hbw:=hii hbw;clear hrow3 hbw hsL;go_wp2_with fail;go_loopw [5] (λs wr=>∃(i:Nat)(vC:Vl),i<=n/\s=.int .i64 i/\WB wr g4 wL.heap.size (.slice aR1 r cR1) (.slice aS2 nS cS2) (.bool J1) (.slice ao1 n1 Y1) (.bool K1) (.slice ap1 m1 Z1) vC ((zfz lC i).map some)/\Hid (zah (λb=>b=g4\/wL.heap.size<=b) wL wr)) (λs _=>n-(intOf s).toNat)
   case atStart=>exact⟨0,_,Nat.zero_le _,rfl,hBB,Hk0⟩
   case round=>
    clear hBB Hk0;obtain⟨i,vC,hi,rfl,hBB,HkL⟩:=hrel;have hbr:BH w wr:=Hbw.o.trans (HkL.o.below (λb e=>e.elim (λh=>by rw[h];exact hw1) (λh=>Nat.le_trans Hbw.o.size h)) Hbw.o.size);have r1k:=r1.mono HkL.o (λe=>e.elim Hne1.o (λh=>by have:=Hg1l.o;omega));obtain⟨aC0,cC0,eC0,-⟩:=hBB.2.1.read
    by_cases hlt:i<n
    ·have hin:(i:Int)<(n:Int):=oM;have HQ1:Hid ((zfz lC (i+1)).map (some:Rat->Qo)=(zfz lC i).map some++[some (Rat.divInt (zgv lC i) 2)]):=hii (by rw[zka,List.map_append];rfl);have HKb:Hid (1<=zgv lC i/\zgv lC i<=8):=hii ⟨by unfold zgv;omega,by unfold zgv;omega⟩;obtain⟨pr,hpr⟩:∃p,(zfz lC i).map (some:Rat->Qo)=p:=⟨_,rfl⟩;have HPl:Hid (pr.length<=100000):=hii (by rw[<-hpr];simp[zfz];omega);rw[hpr]at hBB HQ1 eC0;obtain⟨nQ,hnQ⟩:∃m,pr.length=m:=⟨_,rfl⟩;rw[hnQ]at eC0;subst eC0;have hEr:=hE0.mono hbr;clear hpr hnQ
     by_cases hlc:i<nC
     ·obtain⟨x,hx⟩:∃x,lC[i]?=some x:=⟨lC[i]'(by rw[HnC.o];exact hlc),gE _⟩;have hx8:=HC.o x (List.mem_of_getElem? hx);have uCk:=uC.kept HkL.o Hnw.o;obtain⟨bC,oC,eC,hcx⟩:=uCk i x hx;have HK:Hid (zgv lC i=1+(x:Int) % 8):=hii (by unfold zgv;rw[List.getD_eq_getElem?_getD,hx];rfl);obtain⟨kk,hkk⟩:∃kk,zgv lC i=kk:=⟨_,rfl⟩;rw[hkk]at HK HQ1 HKb;have hky:(1:Int)+(x:Int) % 8=kk:=HK.o.symm;have hicC:(i:Int)<(nC:Int):=oM;subst eC;clear hx uCk hkk HK;obtain⟨c0,c1,c2,c3,c4⟩:=r1k.n5;have Hbx:=hii (Below.refl wr.heap.size wr);go_wp2_with fail
      try rw[hky]
      clear c0 c1 c2 c3 c4 hky hcx;go_fit (zes kk 2 wr (by have:=HKb.o.1;omega) (by have:=HKb.o.2;omega) dM dM (hii dM) hEr);rintro e wd⟨hz,hb⟩;obtain⟨J2,ao2,n2,Y2,K2,ap2,m2,Z2,rfl,hvp⟩:=hz.rat;have Hbx:=hii (Below.step Hbx.o hb nl);clear hb hz;go_upto_region 13 with fail;have hbw:=Hbx.o;obtain⟨we,g7,hw9,hg9,hb,r7⟩:=bxr wd [.bool J2,.slice ao2 n2 Y2,.bool K2,.slice ap2 m2 Z2] 32;rw[<-hw9,<-hg9];have Hg7:Hid (wr.heap.size<=g7):=hii (by have:=hbw.size;omega);clear hw9 hg9;have hvp:=hvp.mono hb;have Hbx:=hii (Below.step Hbx.o hb nl);clear hb hbw;have hBB:=hBB.mono Hbx.o;have HkL:=hii (HkL.o.trans (.of_below Hbx.o));have HSB:Hid (wL.heap.size<=we.heap.size):=hii HkL.o.size;have HBB:=hii hBB;obtain⟨y0,y1,y2,y3,y4,y5,y6⟩:=Row.n7 hBB.1;obtain⟨k0,k1,k2,k3⟩:=r7.n4;clear hBB r7 r1k hbr;go_wp2_with (at_builtin;go_loud (refine zkf we we wL.heap.size rfl (.tmp 68) (.tmp 70) rfl rfl rfl HBB.o.2.1 HSB.o br hvp HPl.o ?_);intro a3 n3' c3 w6 W1 hb1 hO2 hb2 gr2;have hP2:=hii ((HBB.o.mono hb1).putC hO2 gr2 znE);obtain⟨y0,y1,y2,y3,y4,y5,y6⟩:=hP2.o.1.n7;have q0:=hP2.o.1.free 6);have hk5:=hii ((HkL.o.trans (zff hb2)).setCell (p:=⟨g4,6,none⟩) (.inl rfl) (.slice a3 n3' c3));go_roundw
      case rel=>exact⟨i+1,_,oM,gM,by rw[HQ1.o];exact hP2.o.2.1,hk5⟩
      case measure=>exact mM
     ·have HK:Hid (zgv lC i=1):=hii (by unfold zgv;rw[List.getD_eq_getElem?_getD,List.getElem?_eq_none (by rw[HnC.o];omega)];rfl);obtain⟨kk,hkk⟩:∃kk,zgv lC i=kk:=⟨_,rfl⟩;rw[hkk]at HQ1 HKb HK;have hk1:kk=1:=HK.o;subst hk1;clear hkk HK;have hicC:¬(i:Int)<(nC:Int):=oM;obtain⟨c0,c1,c2,c3,c4⟩:=r1k.n5;have Hbx:=hii (Below.refl wr.heap.size wr);go_wp2_with fail;clear c0 c1 c2 c3 c4;go_fit (zes 1 2 wr (by have:=HKb.o.1;omega) (by have:=HKb.o.2;omega) dM dM (hii dM) hEr);rintro e wd⟨hz,hb⟩;obtain⟨J2,ao2,n2,Y2,K2,ap2,m2,Z2,rfl,hvp⟩:=hz.rat;have Hbx:=hii (Below.step Hbx.o hb nl);clear hb hz;go_upto_region 13 with fail;have hbw:=Hbx.o;obtain⟨we,g7,hw9,hg9,hb,r7⟩:=bxr wd [.bool J2,.slice ao2 n2 Y2,.bool K2,.slice ap2 m2 Z2] 32;rw[<-hw9,<-hg9];have Hg7:Hid (wr.heap.size<=g7):=hii (by have:=hbw.size;omega);clear hw9 hg9;have hvp:=hvp.mono hb;have Hbx:=hii (Below.step Hbx.o hb nl);clear hb hbw;have hBB:=hBB.mono Hbx.o;have HkL:=hii (HkL.o.trans (.of_below Hbx.o));have HSB:Hid (wL.heap.size<=we.heap.size):=hii HkL.o.size;have HBB:=hii hBB;obtain⟨y0,y1,y2,y3,y4,y5,y6⟩:=Row.n7 hBB.1;obtain⟨k0,k1,k2,k3⟩:=r7.n4;clear hBB r7 r1k hbr;go_wp2_with (at_builtin;go_loud (refine zkf we we wL.heap.size rfl (.tmp 68) (.tmp 70) rfl rfl rfl HBB.o.2.1 HSB.o br hvp HPl.o ?_);intro a3 n3' c3 w6 W1 hb1 hO2 hb2 gr2;have hP2:=hii ((HBB.o.mono hb1).putC hO2 gr2 znE);obtain⟨y0,y1,y2,y3,y4,y5,y6⟩:=hP2.o.1.n7;have q0:=hP2.o.1.free 6);have hk5:=hii ((HkL.o.trans (zff hb2)).setCell (p:=⟨g4,6,none⟩) (.inl rfl) (.slice a3 n3' c3));go_roundw
      case rel=>exact⟨i+1,_,oM,gM,by rw[HQ1.o];exact hP2.o.2.1,hk5⟩
      case measure=>exact mM
    ·have hin:¬(i:Int)<(n:Int):=oM;have hinn:i=n:=oM;rw[hinn]at hBB eC0;obtain⟨nQ,hnQ⟩:∃m,((zfz lC n).map (some:Rat->Qo)).length=m:=⟨_,rfl⟩;rw[hnQ]at eC0;subst eC0;have r2k:=r2.mono HkL.o (λe=>e.elim Hne2.o (λh=>by have:=Hg2l.o;omega));have hw:=zkK (x0:=.slice aR1 r cR1) (x1:=.slice aS2 nS cS2) (x2:=.bool J1) (x3:=.slice ao1 n1 Y1) (x4:=.bool K1) (x5:=.slice ap1 m1 Z1) r2k znE (UR3.o.kept HkL.o Hnw.o) (US3.o.kept HkL.o Hnw.o) (HV.o.kept HkL.o Hnw.o) hBB.2.1 Hg2l.o;have Hw:=hii hw;have Hbr:=hii hbr;obtain⟨y0,y1,y2,y3,y4,y5,y6⟩:=Row.n7 hBB.1;have q0:=r2k.free 0;have q1:=r2k.free 1;have q2:=r2k.free 2;have q3:=r2k.free 3;have q4:=r2k.free 4;have q5:=r2k.free 5;have q6:=r2k.free 6;obtain⟨p0,p1,p2,p3,p4,p5,p6⟩:=r2k.n7;clear hw hbr hBB hinn hlt r1k r1 r2 uC hE;go_wp2;clear p0 p1 p2 p3 p4 p5 p6;obtain⟨R1,⟨R2,R3,R4,R5⟩,R6⟩:=Hw.o;obtain⟨p0,p1,p2,p3,p4,p5,p6⟩:=Row.n7 R1;have hnc:(zfz lC n).length=nQ:=by rw[<-hnQ,List.length_map]
     refine bodyPost_ret (v:=.agg #[.slice aR1 r cR1,.slice aS2 nS cS2,.bool J1,.slice ao1 n1 Y1,.bool K1,.slice ap1 m1 Z1,.slice aC0 nQ cC0]) (by simp[results,Tryz.results9,go_sem,p0,p1,p2,p3,p4,p5,p6]) rfl ⟨⟨aR1,cR1,aS2,cS2,J1,ao1,n1,Y1,K1,ap1,m1,Z1,aC0,cC0,?_,?_,?_,R2,R3,R4,?_⟩,R6 _ _ Hg2.o Hbr.o⟩
     ·rw[Hr.o,HnS.o,hnc]
     ·rw[Hr.o];exact hcR1
     ·rw[HnS.o];exact hcS2
     ·rw[hnc];exact R5.base Hbw.o.size
theorem zh3{b:Nat}{E:TypeId}(r:Row W g E [bF_,nS_,bF_,nS_,nS_,nS_])(hc:W.cell? (aD_ b k)=some v)(hv:v≠bF_/\v≠nS_):b≠g:=by
 intro e;subst e;unfold Row at r
 match k,hc with
 |0,hc=>simp[World.cell?,r]at hc;exact hv.1 hc.symm
 |1,hc=>simp[World.cell?,r]at hc;exact hv.2 hc.symm
 |2,hc=>simp[World.cell?,r]at hc;exact hv.1 hc.symm
 |3,hc=>simp[World.cell?,r]at hc;exact hv.2 hc.symm
 |4,hc=>simp[World.cell?,r]at hc;exact hv.2 hc.symm
 |5,hc=>simp[World.cell?,r]at hc;exact hv.2 hc.symm
 |k+6,hc=>simp[World.cell?,r]at hc
theorem zad.den1{n1:Bool}{a1:OA}{l1 c1:Nat}{n2:Bool}{a2:OA}{l2 c2:Nat}{r:Rat}(h:zad W (qA n1 a1 l1 c1 n2 a2 l2 c2) r):l2≠0:=by
 obtain⟨_,_,_,_,x2,y2,z2,t2,e,_,h2⟩:=h;simp only[Value.agg.injEq,Array.mk.injEq,List.cons.injEq,and_true]at e;obtain⟨-,-,e3,e4⟩:=e
 cases e3
 cases e4
 intro h0;obtain⟨_,_,L,_,e,_,hL,_⟩:=h2;simp only[Value.agg.injEq,Array.mk.injEq,List.cons.injEq,Value.slice.injEq,and_true]at e;have hl:L.length=0:=e.2.2.1.symm.trans h0;have h3:=hL.o;rw[List.eq_nil_of_length_eq_zero hl]at h3;have h4:=Bi.limbs_eq_nil.1 h3.symm;have:=r.den_pos;omega
theorem zm8{K1:Bool}{aQ:OA}{cS cQ:Nat}{ld:Rat}{sh:List ((Nat×Nat)×Rat)}{Q:List Rat}(r:Row W g 39 [bF_,nS_,bF_,nS_,nS_,nS_])
  (h1:zad W (qA J1 ao1 n1 Y1 K1 ap1 m1 Z1) ld)(h2:EU 6 zaD W aS sh)(h3:UQ W aQ (Q.map some)) :
  Row ((((((W.setCell (aD_ g 0) (.bool J1)).setCell (aD_ g 1) (.slice ao1 n1 Y1)).setCell (aD_ g 2) (.bool K1)).setCell (aD_ g 3) (.slice ap1 m1 Z1)).setCell (aD_ g 4) (.slice aS sh.length cS)).setCell (aD_ g 5) (.slice aQ Q.length cQ)) g 39 [.bool J1,.slice ao1 n1 Y1,.bool K1,.slice ap1 m1 Z1,.slice aS sh.length cS,.slice aQ Q.length cQ] /\
  zkJ ((((((W.setCell (aD_ g 0) (.bool J1)).setCell (aD_ g 1) (.slice ao1 n1 Y1)).setCell (aD_ g 2) (.bool K1)).setCell (aD_ g 3) (.slice ap1 m1 Z1)).setCell (aD_ g 4) (.slice aS sh.length cS)).setCell (aD_ g 5) (.slice aQ Q.length cQ)) (.agg #[.bool J1,.slice ao1 n1 Y1,.bool K1,.slice ap1 m1 Z1,.slice aS sh.length cS,.slice aQ Q.length cQ]) ld sh Q:=by
 have hk:zah (λb=>b=g) W ((((((W.setCell (aD_ g 0) (.bool J1)).setCell (aD_ g 1) (.slice ao1 n1 Y1)).setCell (aD_ g 2) (.bool K1)).setCell (aD_ g 3) (.slice ap1 m1 Z1)).setCell (aD_ g 4) (.slice aS sh.length cS)).setCell (aD_ g 5) (.slice aQ Q.length cQ)) :=
  ((((((zah.refl W:zah (λb=>b=g) W W).setCell (p:=⟨g,0,none⟩) rfl _).setCell (p:=⟨g,1,none⟩) rfl _).setCell (p:=⟨g,2,none⟩) rfl _).setCell (p:=⟨g,3,none⟩) rfl _).setCell (p:=⟨g,4,none⟩) rfl _).setCell (p:=⟨g,5,none⟩) rfl _
 have hn:=WB.noG r zoO;refine⟨(((((r.set 0 (.bool J1)).set 1 (.slice ao1 n1 Y1)).set 2 (.bool K1)).set 3 (.slice ap1 m1 Z1)).set 4 (.slice aS sh.length cS)).set 5 (.slice aQ Q.length cQ),_,_,_,_,_,_,_,_,aS,cS,aQ,cQ,rfl,h1.keptU hk hn.u,λi s hs=>?_,λi o ho=>?_⟩
 ·obtain⟨b,off,c,e,hc6,hc,hq⟩:=h2 i s hs;have hb:¬b=g:=by
   obtain⟨_,_,_,_,_,_,_,_,ec,_⟩:=hq;exact zh3 r (hc 0 _ (by rw[ec];rfl)) ⟨sM,sM⟩
  exact⟨b,off,c,e,hc6,λj u hu=>hk.cell (hc j u hu) hb,zao _ _ _ _ _ hq hk hn.u⟩
 ·obtain⟨b,off,n1',a1',l1',c1',n2',a2',l2',c2',e,f,hq⟩:=h3 i o ho;have hb:¬b=g:=by
   rw[List.getElem?_map]at ho;obtain⟨x,-,rfl⟩:=Option.map_eq_some_iff.1 ho;have hl:=zad.den1 hq;exact zh3 r f.c3 ⟨sM,λe=>hl (by simp only[Value.slice.injEq]at e;exact e.2.1)⟩
  exact⟨b,off,n1',a1',l1',c1',n2',a2',l2',c2',e,⟨hk.cell f.c0 hb,hk.cell f.c1 hb,hk.cell f.c2 hb,hk.cell f.c3 hb,trivial,trivial,trivial,trivial⟩,hq.keptU hk hn.u⟩
def zoH(W:Wo)(g:Nat)(l:List (Nat×Nat))(f:Rat)(cap:List Rat)(m n M:Nat):Prop:=∃J1 ao1 n1 Y1 K1 ap1 m1 Z1 aS nS cS aQ nQ cQ ld Ps Qs,Row W g 39 [.bool J1,.slice ao1 n1 Y1,.bool K1,.slice ap1 m1 Z1,.slice aS nS cS,.slice aQ nQ cQ]/\zkJ W (.agg #[.bool J1,.slice ao1 n1 Y1,.bool K1,.slice ap1 m1 Z1,.slice aS nS cS,.slice aQ nQ cQ]) ld (shs l Ps) Qs/\Bal l f cap m n M ld Ps Qs
theorem zoH.mono{l:List (Nat×Nat)}{f:Rat}{cap:List Rat}{m n M:Nat}(h:zoH W g l f cap m n M)(hb:BH W W'):zoH W' g l f cap m n M:=by
 obtain⟨J1,ao1,n1,Y1,K1,ap1,m1,Z1,aS,nS,cS,aQ,nQ,cQ,ld,Ps,Qs,h1,h2,h3⟩:=h;exact⟨J1,ao1,n1,Y1,K1,ap1,m1,Z1,aS,nS,cS,aQ,nQ,cQ,ld,Ps,Qs,h1.below hb,h2.mono hb,h3⟩
theorem zjH(R S:LN)(f:Rat)(cap:List Rat)(m:Nat)(HW:Hid (WkM R S f cap m))(aR aS aC:OA)(cR cS cC:Nat){K1:Bool}(w:Wo)(uR:zaF w aR R)(uS:zaF w aS S)(hf:zad w (qA J1 ao1 n1 Y1 K1 ap1 m1 Z1) f)(uC:UQ w aC (cap.map some))(hE:Env w) :
  CP 10 #[.agg #[.slice aR R.length cR,.slice aS S.length cS,.bool J1,.slice ao1 n1 Y1,.bool K1,.slice ap1 m1 Z1,.slice aC cap.length cC]] w λe w'=>zpC (prs R S) f cap m (prs R S).length (szE 96 m) w' e/\BH w w':=by
 have hbw:=Below.refl w.heap.size w;have hm:=HW.o.hm;have HLc:Hid (cap.length=m):=hii HW.o.lc;have hR4:=HW.o.fR.len;have hS4:=HW.o.fS.len;have HOp:=hii (λaR aS aC cR cS cC vf w h1 h2 u1 u2 u3 u4 u5=>zeM R S f cap m HW aR aS aC cR cS cC vf w h1 h2 u1 u2 u3 u4 u5);obtain⟨b0,o0,rfl⟩:∃b off,aC=some ⟨b,off,none⟩:=by
  obtain⟨b,off,_,_,_,_,_,_,_,_,e,_⟩:=uC 0 (some (cap[0]'(by rw[HLc.o];omega))) sM;exact⟨b,off,e⟩
 have HCq:=hii (λw u=>zcn (cap.map some) cap.length b0 o0 cC w (hii (by rw[List.length_map])) (hii (by rw[List.length_map,HLc.o];omega)) (hii (by rw[List.length_map,HLc.o];omega)) u);have HC1:=hii (λw u=>zgk R aR cR w oM u);have HC2:=hii (λw u=>zgk S aS cS w oM u);have HNc:Hid ((cap.map (some:Rat->Qo)).length=cap.length):=hii (by rw[List.length_map]);obtain⟨nR,hnR⟩:∃n,R.length=n:=⟨_,rfl⟩;obtain⟨nS,hnS⟩:∃n,S.length=n:=⟨_,rfl⟩;obtain⟨nC,hnC⟩:∃n,cap.length=n:=⟨_,rfl⟩;rw[hnR]at HOp HC1|-;rw[hnS]at HOp HC2|-;rw[hnC]at HOp HCq HNc|-;obtain⟨M,hM⟩:∃M,szE 96 m=M:=⟨_,rfl⟩;rw[hM]at HOp|-;obtain⟨l,hl⟩:∃l,prs R S=l:=⟨_,rfl⟩;rw[hl]at HOp|-;obtain⟨n,hn⟩:∃n,l.length=n:=⟨_,rfl⟩;rw[hn]at HOp|-;clear hnR hnS hnC hM hl hn hR4 hS4 hm;go_enter func10,ntmps10;go_upto_region 1 with fail;obtain⟨wx,hwx,r1,r2,hb⟩:=zaH w 35 39 [.slice aR nR cR,.slice aS nS cS,.bool J1,.slice ao1 n1 Y1,.bool K1,.slice ap1 m1 Z1,.slice (sD b0 o0) nC cC] [bF_,nS_,bF_,nS_,nS_,nS_];simp only[List.toArray]at hwx;rw[<-hwx];clear hwx;obtain⟨w1,rfl⟩:=exi wx;obtain⟨g2,hg2⟩:=exi (w.heap.size+1);have Hg2:Hid (w.heap.size<=g2):=hii oM;rw[<-hg2]at r2|-;clear hg2;obtain⟨g1,hg1⟩:=exi (w.heap.size);have Hg1:Hid (w.heap.size<=g1):=hii oM;rw[<-hg1]at r1|-;clear hg1;have hf:=hf.mono hb;have uR:=uR.mono hb;have uS:=uS.mono hb;have uC:=uC.mono hb;have hE:=hE.mono hb;have hbw:=bu hbw hb;clear hb;have rB:=r2;clear r2;refine zau srB (wx:=w) [vf (pT g1 0),vf (.slice aR nR cR),(λW v=>∃ao cap,v=.slice ao nR cap/\nR<=cap/\zaF W ao R),vf (pT g1 1),vf (.slice aS nS cS),(λW v=>∃ao cap,v=.slice ao nS cap/\nS<=cap/\zaF W ao S),vf (pT g1 2),vf (.agg #[.bool J1,.slice ao1 n1 Y1,.bool K1,.slice ap1 m1 Z1]),vf (pT g1 6),vf (.slice (sD b0 o0) nC cC),(λW v=>∃ao cp,v=.slice ao nC cp/\UQ W ao (cap.map some)),(λW v=>∃J2 ao2 n2 Y2 K2 ap2 m2 Z2 aS nS cS aQ nQ cQ ld Ps Qs,v=.tuple #[.agg #[.bool J2,.slice ao2 n2 Y2,.bool K2,.slice ap2 m2 Z2,.slice aS nS cS,.slice aQ nQ cQ],.int .i64 0]/\zkJ W (.agg #[.bool J2,.slice ao2 n2 Y2,.bool K2,.slice ap2 m2 Z2,.slice aS nS cS,.slice aQ nQ cQ]) ld (shs l Ps) Qs/\Bal l f cap m n M ld Ps Qs),(λW v=>∃J2 ao2 n2 Y2 K2 ap2 m2 Z2 aS nS cS aQ nQ cQ ld Ps Qs,v=.agg #[.bool J2,.slice ao2 n2 Y2,.bool K2,.slice ap2 m2 Z2,.slice aS nS cS,.slice aQ nQ cQ]/\zkJ W (.agg #[.bool J2,.slice ao2 n2 Y2,.bool K2,.slice ap2 m2 Z2,.slice aS nS cS,.slice aQ nQ cQ]) ld (shs l Ps) Qs/\Bal l f cap m n M ld Ps Qs),vf (.int .i64 0),(λ_ _=>True),vf (.int .i64 0)] [some 4,some 5,some 6,some 7,some 8,some 9,some 10,some 11,some 12,some 13,some 14,some 15,some 16,some 17,none,some 3] [4,5,6,7,8,9,10,11,12,13,14,15,16,17,3] [14] [[0],[0],[0],[0],[0],[0],[0],[0],[0],[0],[0],[0],[0],[0],[0],[1]] [none,none,some 0,none,none,some 0,none,none,none,none,some 0,some 0,some 0,none,none,none] (λp T W=>match p with|0=>BH w1 W/\True|_+1=>zoH W g2 l f cap m n M) (λT=>⟨br.drew,trivial⟩) (λp T W W' h hb=>match p,h with|0,h=>⟨bu h.1 hb,trivial⟩|_+1,h=>h.mono hb) (λp T T' W hT h=>match p,hT,h with|0,_,h=>h|_+1,_,h=>h) (hbw) ⟨zac _ _,zac _ _,(λ_ _ _ ⟨a,c,e,h1,h2⟩ hb=>⟨a,c,e,h1,h2.mono hb⟩),zac _ _,zac _ _,(λ_ _ _ ⟨a,c,e,h1,h2⟩ hb=>⟨a,c,e,h1,h2.mono hb⟩),zac _ _,zac _ _,zac _ _,zac _ _,(λ_ _ _ ⟨a,c,e,h1⟩ hb=>⟨a,c,e,h1.mono hb⟩),(λ_ _ _ ⟨a,b,c,d,e,f,g,h,i,j,k,l,m,n,o,p,q,h1,h2,h3⟩ hb=>⟨a,b,c,d,e,f,g,h,i,j,k,l,m,n,o,p,q,h1,h2.mono hb,h3⟩),(λ_ _ _ ⟨a,b,c,d,e,f,g,h,i,j,k,l,m,n,o,p,q,h1,h2,h3⟩ hb=>⟨a,b,c,d,e,f,g,h,i,j,k,l,m,n,o,p,q,h1,h2.mono hb,h3⟩),zac _ _,(λ_ _ _ h _=>h),zac _ _,trivial⟩ ⟨?s0,?s1,?s2,?s3,?s4,?s5,?s6,?s7,?s8,?s9,?s10,?s11,?s12,?s13,?s14,?s15,trivial⟩ ?he
 case' s0|s1|s2|s3|s4|s5|s6|s7|s8|s9|s10|s11|s12|s13|s14|s15=>
  rintro T W p hb hp hS hA K hK
 case' s0|s3|s6|s8=>
  clear hS;simp only[sA]at hK|-
 case' s1=>
  obtain rfl:p=0:=by simpa using hp
  have hS:BH w1 W/\True:=hS;have e0:T 4=_:=hA.1 rfl;obtain⟨k0,k1,k2,k3,k4,k5,k6⟩:=(r1.below hS.1).n7;simp only[sA,e0]at hK|-
 case' s4=>
  obtain rfl:p=0:=by simpa using hp
  have hS:BH w1 W/\True:=hS;have e3:T 7=_:=hA.1 rfl;obtain⟨k0,k1,k2,k3,k4,k5,k6⟩:=(r1.below hS.1).n7;simp only[sA,e3]at hK|-
 case' s7=>
  obtain rfl:p=0:=by simpa using hp
  have hS:BH w1 W/\True:=hS;have e6:T 10=_:=hA.1 rfl;obtain⟨k0,k1,k2,k3,k4,k5,k6⟩:=(r1.below hS.1).n7;simp only[sA,e6]at hK|-
 case' s9=>
  obtain rfl:p=0:=by simpa using hp
  have hS:BH w1 W/\True:=hS;have e8:T 12=_:=hA.1 rfl;obtain⟨k0,k1,k2,k3,k4,k5,k6⟩:=(r1.below hS.1).n7;simp only[sA,e8]at hK|-
 case' s13=>
  obtain rfl:p=0:=by simpa using hp
  clear hS;have r11:(_:FW) W (T 15):=hA.1 dM;obtain⟨J2,ao2,n2,Y2,K2,ap2,m2,Z2,aS8,nS8,cS8,aQ8,nQ8,cQ8,ld,Ps,Qs,e11,-⟩:=r11;simp only[sA,e11]at hK|-
 case' s15=>
  obtain rfl:p=1:=by simpa using hp
  clear hS;have e13:T 17=_:=hA.1 rfl;simp only[sA,e13]at hK|-
 case s0|s1|s3|s4|s6|s7|s8|s9|s13|s15=>
  exact cE
 case s2=>
  obtain rfl:p=0:=by simpa using hp
  have hS:BH w1 W/\True:=hS;have e1:T 5=_:=hA.1 rfl;simp only[sA,e1]at hK|-;have HK:=hii hK;clear hK hA;refine wO rfl ?_;go_simp;go_fit (HC1.o W (uR.mono hS.1));rintro e w2⟨⟨a9,c9,rfl,hc9,u9⟩,hb1⟩
  try dsimp only
  exact HK.o _ _ ⟨λ_=>hb1,λh=>absurd h (zas dM dM)⟩ (⟨a9,c9,rfl,hc9,u9⟩)
 case s5=>
  obtain rfl:p=0:=by simpa using hp
  have hS:BH w1 W/\True:=hS;have e4:T 8=_:=hA.1 rfl;simp only[sA,e4]at hK|-;have HK:=hii hK;clear hK hA;refine wO rfl ?_;go_simp;go_fit (HC2.o W (uS.mono hS.1));rintro e w2⟨⟨a9,c9,rfl,hc9,u9⟩,hb1⟩
  try dsimp only
  exact HK.o _ _ ⟨λ_=>hb1,λh=>absurd h (zas dM dM)⟩ (⟨a9,c9,rfl,hc9,u9⟩)
 case s10=>
  obtain rfl:p=0:=by simpa using hp
  have hS:BH w1 W/\True:=hS;have e9:T 13=_:=hA.1 rfl;simp only[sA,e9]at hK|-;have HK:=hii hK;clear hK hA;refine wO rfl ?_;go_simp;go_fit (HCq.o W (uC.mono hS.1));rintro e w2⟨⟨v9,rfl,hO9⟩,hb1⟩;obtain⟨a9,c9,e9,u9⟩:=hO9.read;rw[HNc.o]at e9;subst e9
  try dsimp only
  exact HK.o _ _ ⟨λ_=>hb1,λh=>absurd h (zas dM dM)⟩ (⟨a9,c9,rfl,u9⟩)
 case s11=>
  obtain rfl:p=0:=by simpa using hp
  have hS:BH w1 W/\True:=hS;have r2:(_:FW) W (T 6):=hA.1 dM;have r5:(_:FW) W (T 9):=hA.2.1 dM;have e7:T 11=_:=hA.2.2.1 rfl;have r10:(_:FW) W (T 14):=hA.2.2.2.1 dM;obtain⟨a2,c2,e2,hc2,u2⟩:=r2;obtain⟨a5,c5,e5,hc5,u5⟩:=r5;obtain⟨a10,c10,e10,u10⟩:=r10;simp only[sA,e7,e2,e5,e10]at hK|-;have HK:=hii hK;clear hK hA;refine wO rfl ?_;go_simp;go_fit (HOp.o a2 a5 a10 c2 c5 c10 _ W hc2 hc5 u2 u5 (hf.mono hS.1) u10 (hE.mono hS.1));rintro e w2⟨⟨v9,ld,Ps,Qs,rfl,hBV,hBl⟩,hb1⟩;have hBV0:=hBV;obtain⟨J2,ao2,n2,Y2,K2,ap2,m2,Z2,aS8,cS8,aQ8,cQ8,rfl,-⟩:=hBV0
  try dsimp only
  exact HK.o _ _ ⟨λ_=>hb1,λh=>absurd h (zas dM dM)⟩ (⟨_,_,_,_,_,_,_,_,_,_,_,_,_,_,ld,Ps,Qs,rfl,hBV,hBl⟩)
 case s12=>
  obtain rfl:p=0:=by simpa using hp
  clear hS;have r11:(_:FW) W (T 15):=hA.1 dM;obtain⟨J2,ao2,n2,Y2,K2,ap2,m2,Z2,aS8,nS8,cS8,aQ8,nQ8,cQ8,ld,Ps,Qs,e11,hBV,hBl⟩:=r11;simp only[sA,e11]at hK|-;have HK:=hii hK;clear hK hA;refine wO rfl ?_;go_simp;exact HK.o _ _ ⟨λ_=>br,λh=>absurd h (zas dM dM)⟩ (⟨_,_,_,_,_,_,_,_,_,_,_,_,_,_,ld,Ps,Qs,rfl,hBV,hBl⟩)
 case s14=>
  obtain rfl:p=0:=by simpa using hp
  have hS:BH w1 W/\True:=hS;have r12:(_:FW) W (T 16):=hA.1 dM;obtain⟨J2,ao2,n2,Y2,K2,ap2,m2,Z2,aS8,nS8,cS8,aQ8,nQ8,cQ8,ld,Ps,Qs,e12,hBV,hBl⟩:=r12;have R2:=rB.below hS.1;obtain⟨y0,y1,y2,y3,y4,y5⟩:=R2.n6;have q0:=R2.free;have HBV:=hii hBV;have HS1:=hii hS.1;clear hBV hS;simp only[sA,e12]at hK|-;have HK:=hii hK;clear hK hA;refine wO rfl ?_;go_simp;exact HK.o undef _ ⟨λh=>absurd rfl h,λ_=>⟨(by obtain⟨_,_,_,_,_,_,_,_,_,_,_,_,eV,v1,v2,v3⟩:=HBV.o;simp only[Value.agg.injEq,Array.mk.injEq,List.cons.injEq,Value.slice.injEq,Value.bool.injEq,and_true]at eV;obtain⟨rfl,⟨rfl,rfl,rfl⟩,rfl,⟨rfl,rfl,rfl⟩,⟨rfl,rfl,rfl⟩,rfl,rfl,rfl⟩:=eV;have hq:=zm8 (cS:=cS8) (cQ:=cQ8) R2 v1 v2 v3;exact⟨_,_,_,_,_,_,_,_,_,_,_,_,_,_,ld,Ps,Qs,hq.1,hq.2,hBl⟩),(zon Hg2.o (Below.refl _ W) _ _ _ _ _ _)⟩⟩ (trivial)
 case he=>
  rintro T W hb hS hA;have hS:zoH W g2 l f cap m n M:=hS;have f15:T 3=.int .i64 0:=hA.at 15 dM rfl;simp only[sA,f15];obtain⟨J2,ao2,n2,Y2,K2,ap2,m2,Z2,aS8,nS8,cS8,aQ8,nQ8,cQ8,ld,Ps,Qs,R2,hBV,hBl⟩:=hS;clear hA f15;obtain⟨y0,y1,y2,y3,y4,y5⟩:=R2.n6;have HBV:=hii hBV;have Hb:=hii hb;clear hBV hb;go_wp2;refine bodyPost_ret (v:=.tuple #[.agg #[.bool J2,.slice ao2 n2 Y2,.bool K2,.slice ap2 m2 Z2,.slice aS8 nS8 cS8,.slice aQ8 nQ8 cQ8],.int .i64 0]) (by simp[results,Tryz.results10,go_sem,y0,y1,y2,y3,y4,y5]) rfl ⟨⟨_,ld,Ps,Qs,rfl,HBV.o,hBl⟩,Hb.o⟩
end Go.Proofs.YtfgffkmddanjjaaGreatDoor
