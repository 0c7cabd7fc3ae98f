/-
  load: sums, comparisons.
-/
import Derived.Test.YtfgffkmddanjjaaGreatDoorLa
import Derived.Test.YtfgffkmddanjjaaGreatDoorE14
import Derived.Test.YtfgffkmddanjjaaGreatDoorFlowS
set_option linter.unusedVariables false
set_option linter.unusedSimpArgs false
set_option maxRecDepth 100000
set_option maxHeartbeats 25600000
namespace Go.Proofs.YtfgffkmddanjjaaGreatDoor
open _root_.Go.Proofs.Tryz
open Go.RowKit
variable {J1:Bool} {k:Int} {R S:LN} {Y1 Z1 g m1 n1 n2:Nat} {G:Nat->Prop} {ao1 ap1:OA} {a f:Rat} {v:Vl} {W w':Wo}
def zcq(w:Wo)(g:Nat)(k:Int)(r:Rat):Prop:=∃J1 ao1 n1 Y1 K1 ap1 m1 Z1,Row w g 137 [.bool J1,.slice ao1 n1 Y1,.bool K1,.slice ap1 m1 Z1,.int .i64 k]/\(k=0->zad w (qA J1 ao1 n1 Y1 K1 ap1 m1 Z1) r)
theorem zcq.mono{w:Wo}{r:Rat}(h:zcq w g k r)(hb:BH w w'):zcq w' g k r:=by
 obtain⟨J1,ao1,n1,Y1,K1,ap1,m1,Z1,h1,h2⟩:=h;exact⟨J1,ao1,n1,Y1,K1,ap1,m1,Z1,h1.below hb,λhk=>(h2 hk).mono hb⟩
theorem zcq.lt{w:Wo}{r:Rat}(h:zcq w g k r):g<w.heap.size:=by
 obtain⟨J1,ao1,n1,Y1,K1,ap1,m1,Z1,h1,h2⟩:=h;exact h1.lt
theorem zlV{a c:Bool}{b d:OA}{n3 n4:Nat}{z:Int}:∀u∈[Value.bool a,.slice b n1 n2,.bool c,.slice d n3 n4,.int .i64 z],zaM u:=by
 intro u hu;simp at hu;rcases hu with rfl|rfl|rfl|rfl|rfl<;>(intro z e;cases e)
theorem zcq.noU{w:Wo}{r:Rat}(h:zcq w g k r):NoU (λk=>k=g) w:=by
 obtain⟨J1,ao1,n1,Y1,K1,ap1,m1,Z1,h1,h2⟩:=h;exact h1.noU zlV
theorem zcq.kept{w:Wo}{r:Rat}(h:zcq w g k r)(hk:zah G w w')(hn:NoU G w)(hg:¬G g):zcq w' g k r:=by
 obtain⟨J1,ao1,n1,Y1,K1,ap1,m1,Z1,h1,h2⟩:=h;exact⟨J1,ao1,n1,Y1,K1,ap1,m1,Z1,h1.mono hk hg,λe=>(h2 e).keptU hk hn⟩
theorem PK.rat{r:Rat}{w:Wo}{e:Ending}(h:PK k r w e):∃J1 ao1 n1 Y1 K1 ap1 m1 Z1,e=.returned (.tuple #[.agg #[.bool J1,.slice ao1 n1 Y1,.bool K1,.slice ap1 m1 Z1],.int .i64 k])/\(k=0->zad w (qA J1 ao1 n1 Y1 K1 ap1 m1 Z1) r):=by
 obtain⟨n1,a1,l1,c1,n2,a2,l2,c2,e1,h1,h2,_⟩:=h;refine⟨_,_,_,_,_,_,_,_,e1,λhk=>?_⟩;subst hk;rw[zbB]at h1 h2;exact zad.mk' h1 h2
def zia(g:Nat)(w:Wo):Prop:=∃w0,Env w0/\w0.heap.size<=g/\BH w0 w
theorem zia.env{w:Wo}(h:zia g w):Env w:=by
 obtain⟨w0,h1,_,h3⟩:=h;exact h1.mono h3
theorem zia.mono{w:Wo}(h:zia g w)(hb:BH w w'):zia g w':=by
 obtain⟨w0,h1,h2,h3⟩:=h;exact⟨w0,h1,h2,bu h3 hb⟩
theorem zia.kept{w:Wo}(h:zia g w)(hk:zah (λb=>b=g) w w'):zia g w':=by
 obtain⟨w0,h1,h2,h3⟩:=h;exact⟨w0,h1,h2,h3.trans (hk.below (λb e=>by rw[e];exact h2) h3.size)⟩
theorem zia.of{w:Wo}(h:Env w)(hg:w.heap.size<=g)(hb:BH w w'):zia g w':=⟨w,h,hg,hb⟩
def RU(G:Nat->Prop)(r:Rat)(W:Wo)(v:Vl):Prop:=∀W',zah G W W'->zad W' v r
theorem RU.stay{r:Rat}:zgq G (RU G r):=λ_ _ _ h hk W' hk'=>h W' (hk.trans hk')
theorem RU.rat{r:Rat}(h:RU G r W v):zad W v r:=h W (zah.refl W)
theorem zad.ru{r:Rat}(h:zad W v r)(hn:NoU G W):RU G r W v:=λ_ hk=>h.keptU hk hn
def TU(G:Nat->Prop)(k:Int)(r:Rat)(W:Wo)(v:Vl):Prop:=∃J1 ao1 n1 Y1 K1 ap1 m1 Z1,v=.tuple #[.agg #[.bool J1,.slice ao1 n1 Y1,.bool K1,.slice ap1 m1 Z1],.int .i64 k]/\(k=0->RU G r W (.agg #[.bool J1,.slice ao1 n1 Y1,.bool K1,.slice ap1 m1 Z1]))
theorem TU.stay{r:Rat}:zgq G (TU G k r):=λW W' v h hk=>by
 obtain⟨J1,ao1,n1,Y1,K1,ap1,m1,Z1,h1,h2⟩:=h;exact⟨J1,ao1,n1,Y1,K1,ap1,m1,Z1,h1,λe=>RU.stay W W' _ (h2 e) hk⟩
def VU(G:Nat->Prop)(k:Int)(r:Rat)(W:Wo)(v:Vl):Prop:=∃J1 ao1 n1 Y1 K1 ap1 m1 Z1,v=.agg #[.bool J1,.slice ao1 n1 Y1,.bool K1,.slice ap1 m1 Z1]/\(k=0->RU G r W (.agg #[.bool J1,.slice ao1 n1 Y1,.bool K1,.slice ap1 m1 Z1]))
theorem VU.stay{r:Rat}:zgq G (VU G k r):=λW W' v h hk=>by
 obtain⟨J1,ao1,n1,Y1,K1,ap1,m1,Z1,h1,h2⟩:=h;exact⟨J1,ao1,n1,Y1,K1,ap1,m1,Z1,h1,λe=>RU.stay W W' _ (h2 e) hk⟩
theorem zoZ{v:Rat}{x0 x1 x2 x3:Vl}{K1:Bool}(r:Row W g 137 [x0,x1,x2,x3,.int .i64 0])(h:k=0->zad W (qA J1 ao1 n1 Y1 K1 ap1 m1 Z1) v)(hn:NoU (λb=>b=g) W) :
  ∃J5 ao5 n5 Y5 K5 ap5 m5 Z5,Row ((((W.setCell (aD_ g 0) (.bool J1)).setCell (aD_ g 1) (.slice ao1 n1 Y1)).setCell (aD_ g 2) (.bool K1)).setCell (aD_ g 3) (.slice ap1 m1 Z1)) g 137 [.bool J5,.slice ao5 n5 Y5,.bool K5,.slice ap5 m5 Z5,.int .i64 0] /\
   (k=0->zad ((((W.setCell (aD_ g 0) (.bool J1)).setCell (aD_ g 1) (.slice ao1 n1 Y1)).setCell (aD_ g 2) (.bool K1)).setCell (aD_ g 3) (.slice ap1 m1 Z1)) (.agg #[.bool J5,.slice ao5 n5 Y5,.bool K5,.slice ap5 m5 Z5]) v)/\NoU (λb=>b=g) ((((W.setCell (aD_ g 0) (.bool J1)).setCell (aD_ g 1) (.slice ao1 n1 Y1)).setCell (aD_ g 2) (.bool K1)).setCell (aD_ g 3) (.slice ap1 m1 Z1)):=by
 have hk:zah (λb=>b=g) W ((((W.setCell (aD_ g 0) (.bool J1)).setCell (aD_ g 1) (.slice ao1 n1 Y1)).setCell (aD_ g 2) (.bool K1)).setCell (aD_ g 3) (.slice ap1 m1 Z1)) :=
  ((((zah.refl W:zah (λb=>b=g) W W).setCell (p:=⟨g,0,none⟩) rfl _).setCell (p:=⟨g,1,none⟩) rfl _).setCell (p:=⟨g,2,none⟩) rfl _).setCell (p:=⟨g,3,none⟩) rfl _
 have R:Row ((((W.setCell (aD_ g 0) (.bool J1)).setCell (aD_ g 1) (.slice ao1 n1 Y1)).setCell (aD_ g 2) (.bool K1)).setCell (aD_ g 3) (.slice ap1 m1 Z1)) g 137 [.bool J1,.slice ao1 n1 Y1,.bool K1,.slice ap1 m1 Z1,.int .i64 0]:=(((r.set 0 (.bool J1)).set 1 (.slice ao1 n1 Y1)).set 2 (.bool K1)).set 3 (.slice ap1 m1 Z1);exact⟨_,_,_,_,_,_,_,_,R,λq=>(h q).keptU hk hn,R.noU zlV⟩
theorem zfW(W:Wo)(g:Nat)(y0 y1 y2 y3:Vl):zah (λb=>b=g) W ((((W.setCell (aD_ g 0) y0).setCell (aD_ g 1) y1).setCell (aD_ g 2) y2).setCell (aD_ g 3) y3) :=
 ((((zah.refl W:zah (λb=>b=g) W W).setCell (p:=⟨g,0,none⟩) rfl _).setCell (p:=⟨g,1,none⟩) rfl _).setCell (p:=⟨g,2,none⟩) rfl _).setCell (p:=⟨g,3,none⟩) rfl _
theorem zn2{v:Rat}{k0:Int}{K1:Bool}(r:Row W g 137 [.bool J1,.slice ao1 n1 Y1,.bool K1,.slice ap1 m1 Z1,.int .i64 k0])(h:k=0->zad W (qA J1 ao1 n1 Y1 K1 ap1 m1 Z1) v):zcq (W.setCell (aD_ g 4) (.int .i64 k)) g k v :=
 ⟨_,_,_,_,_,_,_,_,r.set 4 (.int .i64 k),λq=>(h q).keptU ((zah.refl W:zah (λb=>b=g) W W).setCell (p:=⟨g,4,none⟩) rfl _) (r.noU zlV)⟩
theorem zdT(w:Wo)(hE:Env w) :
  CP 92 #[] w λe w'=>(∃g,e=.returned (pT g 0)/\w.heap.size<=g/\zcq w' g 0 0)/\BH w w':=by
 go_enter func92,ntmps92;go_wp2_with fail;go_fit (zaK 0 dM dM w hE);rintro e w1⟨hR,hb⟩;obtain⟨J1,ao1,n1,Y1,K1,ap1,m1,Z1,rfl,hV⟩:=hR.rat;have hV:zad w1 (qA J1 ao1 n1 Y1 K1 ap1 m1 Z1) 0:=hV;clear hR;go_wp2;go_ret;have h2:=bA w1 (.cells #[.bool J1,.slice ao1 n1 Y1,.bool K1,.slice ap1 m1 Z1,.int .i64 0] 137);exact⟨⟨w1.heap.size,rfl,hb.size,_,_,_,_,_,_,_,_,heap_alloc_new _ _,λ_=>hV.mono h2⟩,bu hb h2⟩
theorem zkk(g:Nat)(r x:Rat)(k:Int)(vx:Vl)(w:Wo)(hs:zcq w g 0 r)(hx:zad w vx x)(hA:Hid (KQ k (zcI r x)))(hE:Env w) :
  CP 93 #[pT g 0,vx] w λe w'=>e=.returned (.tuple #[])/\zcq w' g k (r+x)/\zah (λb=>b=g) w w':=by
 obtain⟨J1,ao1,n1,Y1,K1,ap1,m1,Z1,rS,hV⟩:=hs;have hV:=hV rfl;obtain⟨J2,ao2,n2,Y2,K2,ap2,m2,Z2,rfl⟩:=hx.parts;have hkw:zah (λb=>b=g) w w:=zah.refl w;go_enter func93,ntmps93;go_upto_region 1 with fail;obtain⟨w1,g3,hw9,hg9,hb,r3⟩:=bxr w [.bool J2,.slice ao2 n2 Y2,.bool K2,.slice ap2 m2 Z2] 32;rw[<-hw9,<-hg9];have Hg3:Hid (g<g3):=hii (by rw[hg9];exact rS.lt);clear hw9 hg9;have hkw:zah (λb=>b=g) w w1:=.of_below hb;have hV:=hV.mono hb;have hx:=hx.mono hb;have hE:=hE.mono hb;have rS:=rS.below hb;clear hb;obtain⟨c0,c1,c2,c3,c4⟩:=rS.n5;go_upto_region 2 with fail;clear c0 c1 c2 c3 c4;have Hn:Hid (NoU (λb=>b=g) w1):=hii (rS.noU zlV);have Hne:Hid (¬g3=g):=hii (by have:=Hg3.o;omega);obtain⟨w2,rfl⟩:=exi w1;refine zau (srK (G:=(λb=>b=g))) (wx:=w2) [vf (pT g 0),vf (pT g 0),vf (pT g 0),vf (pT g 0),vf (pT g 0),vf (.agg #[.bool J1,.slice ao1 n1 Y1,.bool K1,.slice ap1 m1 Z1]),vf (.agg #[.bool J2,.slice ao2 n2 Y2,.bool K2,.slice ap2 m2 Z2]),(TU (λb=>b=g) k (r+x)),(TU (λb=>b=g) k (r+x)),(VU (λb=>b=g) k (r+x)),vf (.int .i64 k),vf (pT g 0),vf (pT g 0),(λ_ _=>True),vf (pT g 0),vf (pT g 4),(λ_ _=>True)] [some 10,some 11,some 12,some 13,some 14,some 15,some 16,some 17,some 9,some 18,some 19,some 20,some 21,none,some 22,some 23,none] [10,11,12,13,14,15,16,17,9,18,19,20,21,22,23] [13,16] [[0],[0,1],[0],[0],[0],[0],[0],[0],[0],[0],[0,1],[0,1],[0],[0],[1,2],[1],[1]] [none,none,none,none,none,none,none,none,none,none,none,none,none,none,none,none,none] (λp T W=>match p with|0=>BH w2 W|1=>∃J5 ao5 n5 Y5 K5 ap5 m5 Z5,Row W g 137 [.bool J5,.slice ao5 n5 Y5,.bool K5,.slice ap5 m5 Z5,.int .i64 0]/\(k=0->zad W (qA J5 ao5 n5 Y5 K5 ap5 m5 Z5) (r+x))/\NoU (λb=>b=g) W|_+2=>zcq W g k (r+x)) (λT=>br.drew) (λp T W W' h hb=>match p,h with|0,h=>bu h hb|1,h=>h.elim λa h=>h.elim λb h=>h.elim λc h=>h.elim λd h=>h.elim λe h=>h.elim λf h=>h.elim λi h=>h.elim λj h=>⟨a,b,c,d,e,f,i,j,h.1.below hb,λq=>(h.2.1 q).mono hb,(h.1.below hb).noU zlV⟩|_+2,h=>h.mono hb) (λp T T' W hT h=>match p,hT,h with|0,_,h=>h|1,_,h=>h|_+2,_,h=>h) (zah.refl _) ⟨zab _ _,zab _ _,zab _ _,zab _ _,zab _ _,zab _ _,zab _ _,TU.stay,TU.stay,VU.stay,zab _ _,zab _ _,zab _ _,(λ_ _ _ h _=>h),zab _ _,zab _ _,(λ_ _ _ h _=>h),trivial⟩ ⟨?s0,?s1,?s2,?s3,?s4,?s5,?s6,?s7,?s8,?s9,?s10,?s11,?s12,?s13,?s14,?s15,?s16,trivial⟩ ?he
 case' s0|s1|s2|s3|s4|s5|s6|s7|s8|s9|s10|s11|s12|s13|s14|s15|s16=>
  rintro T W p hb hp hS hA K hK
 case' s0|s1|s2=>
  clear hS;simp only[sA]at hK|-
 case' s3=>
  clear hS;have e2:T 12=_:=hA.1 rfl;simp only[sA,e2]at hK|-
 case' s4=>
  clear hS;have e3:T 13=_:=hA.1 rfl;simp only[sA,e3]at hK|-
 case' s5=>
  obtain rfl:p=0:=by simpa using hp
  have hS:BH w2 W:=hS;have e4:T 14=_:=hA.1 rfl;obtain⟨c0,c1,c2,c3,c4⟩:=(rS.below hS).n5;simp only[sA,e4]at hK|-
 case' s6=>
  obtain rfl:p=0:=by simpa using hp
  have hS:BH w2 W:=hS;obtain⟨d0,d1,d2,d3⟩:=(r3.below hS).n4;simp only[sA]at hK|-
 case' s10=>
  clear hS;have r8:(_:FW) W (T 9):=hA.1 rfl;obtain⟨J6,ao6,n6,Y6,K6,ap6,m6,Z6,e8,hv6⟩:=r8;simp only[sA,e8]at hK|-
 case' s11=>
  clear hS;have e0:T 10=_:=hA.1 rfl;simp only[sA,e0]at hK|-
 case' s12=>
  clear hS;have e11:T 20=_:=hA.1 rfl;simp only[sA,e11]at hK|-
 case' s14=>
  clear hS;have e1:T 11=_:=hA.1 rfl;simp only[sA,e1]at hK|-
 case' s15=>
  clear hS;have e14:T 22=_:=hA.1 rfl;simp only[sA,e14]at hK|-
 case s0|s1|s2|s3|s4|s5|s6|s10|s11|s12|s14|s15=>
  exact cE
 case s7=>
  obtain rfl:p=0:=by simpa using hp
  have hS:BH w2 W:=hS;have e5:T 15=_:=hA.1 rfl;have e6:T 16=_:=hA.2.1 rfl;simp only[sA,e5,e6]at hK|-;have HK:=hii hK;clear hK hA;refine wO rfl ?_;go_simp;go_fit (znB _ _ r x k W (hV.mono hS) (hx.mono hS) hA (hE.mono hS));rintro e w3⟨hz,hb1⟩;obtain⟨J6,ao6,n6,Y6,K6,ap6,m6,Z6,rfl,hv6⟩:=hz.rat;have hn3:NoU (λb=>b=g) w3:=by
   have hS2:=bu hS hb1;exact(rS.below hS2).noU zlV
  try dsimp only
  exact HK.o _ _ ⟨λ_=>hb1,λh=>absurd h (zas dM dM)⟩ (⟨_,_,_,_,_,_,_,_,rfl,λq=>(hv6 q).ru hn3⟩)
 case s8=>
  clear hS;have r7:((TU (λb=>b=g) k (r+x)):FW) W (T 17):=hA.1 rfl;simp only[sA]at hK|-;have HK:=hii hK;clear hK hA;refine wO rfl ?_;go_simp;exact HK.o _ _ ⟨λ_=>br,λh=>absurd h (zas dM dM)⟩ (r7)
 case s9=>
  clear hS;have r8:(_:FW) W (T 9):=hA.1 rfl;obtain⟨J6,ao6,n6,Y6,K6,ap6,m6,Z6,e8,hv6⟩:=r8;simp only[sA,e8]at hK|-;have HK:=hii hK;clear hK hA;refine wO rfl ?_;go_simp;exact HK.o _ _ ⟨λ_=>br,λh=>absurd h (zas dM dM)⟩ (⟨_,_,_,_,_,_,_,_,rfl,hv6⟩)
 case s13=>
  obtain rfl:p=0:=by simpa using hp
  have hS:BH w2 W:=hS;have e12:T 21=_:=hA.1 rfl;have r9:(_:FW) W (T 18):=hA.2.1 rfl;obtain⟨J6,ao6,n6,Y6,K6,ap6,m6,Z6,e9,hv6⟩:=r9;have R:=rS.below hS;obtain⟨c0,c1,c2,c3,c4⟩:=R.n5;have f:=R.free;simp only[sA,e12,e9]at hK|-;have HK:=hii hK;clear hK hA;refine wO rfl ?_;go_simp;exact HK.o undef _ ⟨λh=>absurd rfl h,λ_=>⟨zoZ R (λq=>(hv6 q).rat) (R.noU zlV),zfW W g _ _ _ _⟩⟩ (trivial)
 case s16=>
  obtain rfl:p=1:=by simpa using hp
  have hS:∃J5 ao5 n5 Y5 K5 ap5 m5 Z5,Row W g 137 [.bool J5,.slice ao5 n5 Y5,.bool K5,.slice ap5 m5 Z5,.int .i64 0]/\(k=0->zad W (qA J5 ao5 n5 Y5 K5 ap5 m5 Z5) (r+x))/\NoU (λb=>b=g) W:=hS;have e15:T 23=_:=hA.1 rfl;have e10:T 19=_:=hA.2.1 rfl;obtain⟨J7,ao7,n7,Y7,K7,ap7,m7,Z7,R,hv7,hn7⟩:=hS;obtain⟨c0,c1,c2,c3,c4⟩:=Row.n5 R;have f:=Row.free R;simp only[sA,e15,e10]at hK|-;have HK:=hii hK;clear hK hA;refine wO rfl ?_;go_simp;exact HK.o undef _ ⟨λh=>absurd rfl h,λ_=>⟨zn2 R hv7,(zah.refl W:zah (λb=>b=g) W W).setCell (p:=⟨g,4,none⟩) rfl _⟩⟩ (trivial)
 case he=>
  rintro T W hb hS hA;have hS:zcq W g k (r+x):=hS;simp only[sA];clear hA;go_wp2;go_end0;exact⟨rfl,hS,hkw.trans hb⟩
theorem za3(va vb:Vl)(a b:Rat)(w:Wo)(ha:zad w va a)(hv:zad w vb b)(hC:Hid (CrS a b))(hE:Env w) :
  CP 70 #[va,vb] w λe w'=>e=.returned (.int .i64 (Rq.cmpQ a b))/\BH w w':=by
 have hbw:=Below.refl w.heap.size w;obtain⟨J1,ao1,n1,Y1,K1,ap1,m1,Z1,rfl⟩:=ha.parts;obtain⟨J2,ao2,n2,Y2,K2,ap2,m2,Z2,rfl⟩:=hv.parts;have HCmp:=λW h1 h2 h3=>zkB (.agg #[.bool J1,.slice ao1 n1 Y1,.bool K1,.slice ap1 m1 Z1]) (.agg #[.bool J2,.slice ao2 n2 Y2,.bool K2,.slice ap2 m2 Z2]) a b W h1 h2 hC h3
 generalize Rq.cmpQ a b=c at HCmp|-;go_enter func70,ntmps70;go_upto_region 1 with fail;obtain⟨wx,hwx,r1,r2,hb⟩:=zaH w 32 32 [.bool J1,.slice ao1 n1 Y1,.bool K1,.slice ap1 m1 Z1] [.bool J2,.slice ao2 n2 Y2,.bool K2,.slice ap2 m2 Z2];simp only[List.toArray]at hwx;rw[<-hwx];clear hwx;obtain⟨w1,rfl⟩:=exi wx;obtain⟨g2,hg2⟩:=exi (w.heap.size+1);have Hg2:Hid (w.heap.size<=g2):=hii oM;rw[<-hg2]at r2|-;clear hg2;obtain⟨g1,hg1⟩:=exi (w.heap.size);have Hg1:Hid (w.heap.size<=g1):=hii oM;rw[<-hg1]at r1|-;clear hg1;have ha:=ha.mono hb;have hv:=hv.mono hb;have hE:=hE.mono hb;have hbw:=bu hbw hb;clear hb;obtain⟨c0,c1,c2,c3⟩:=r1.n4;obtain⟨d0,d1,d2,d3⟩:=r2.n4;go_wp2_with fail;go_fit (HCmp w1 ha hv hE);rintro e w2⟨rfl,hb⟩;exact dS
theorem zfe(va vb:Vl)(a b:Rat)(w:Wo)(ha:zad w va a)(hv:zad w vb b)(hC:Hid (CrS a b))(hE:Env w) :
  CP 73 #[va,vb] w λe w'=>e=.returned (.bool (decide (0<=Rq.cmpQ a b)))/\BH w w':=by
 have hbw:=Below.refl w.heap.size w;obtain⟨J1,ao1,n1,Y1,K1,ap1,m1,Z1,rfl⟩:=ha.parts;obtain⟨J2,ao2,n2,Y2,K2,ap2,m2,Z2,rfl⟩:=hv.parts;have HCmp:=λW h1 h2 h3=>zkB (.agg #[.bool J1,.slice ao1 n1 Y1,.bool K1,.slice ap1 m1 Z1]) (.agg #[.bool J2,.slice ao2 n2 Y2,.bool K2,.slice ap2 m2 Z2]) a b W h1 h2 hC h3
 generalize Rq.cmpQ a b=c at HCmp|-;go_enter func73,ntmps73;go_upto_region 1 with fail;obtain⟨wx,hwx,r1,r2,hb⟩:=zaH w 32 32 [.bool J1,.slice ao1 n1 Y1,.bool K1,.slice ap1 m1 Z1] [.bool J2,.slice ao2 n2 Y2,.bool K2,.slice ap2 m2 Z2];simp only[List.toArray]at hwx;rw[<-hwx];clear hwx;obtain⟨w1,rfl⟩:=exi wx;obtain⟨g2,hg2⟩:=exi (w.heap.size+1);have Hg2:Hid (w.heap.size<=g2):=hii oM;rw[<-hg2]at r2|-;clear hg2;obtain⟨g1,hg1⟩:=exi (w.heap.size);have Hg1:Hid (w.heap.size<=g1):=hii oM;rw[<-hg1]at r1|-;clear hg1;have ha:=ha.mono hb;have hv:=hv.mono hb;have hE:=hE.mono hb;have hbw:=bu hbw hb;clear hb;obtain⟨c0,c1,c2,c3⟩:=r1.n4;obtain⟨d0,d1,d2,d3⟩:=r2.n4;go_wp2_with fail;go_fit (HCmp w1 ha hv hE);rintro e w2⟨rfl,hb⟩;exact dS
theorem zhl(g:Nat)(r x y:Rat)(vx vy:Vl)(w:Wo)(hs:zcq w g 0 r)(hx:zad w vx x)(hy:zad w vy y)(hM:Hid (zeN x y))(hA:Hid (zcI r (x*y)))(hG:zia g w) :
  CP 107 #[pT g 0,vx,vy] w λe w'=>e=.returned (.tuple #[])/\zcq w' g 0 (r+x*y)/\zah (λb=>b=g) w w':=by
 have hbw:=Below.refl w.heap.size w;have hE:=hG.env;have Hgl:Hid (g<w.heap.size):=hii hs.lt;obtain⟨J1,ao1,n1,Y1,K1,ap1,m1,Z1,rfl⟩:=hx.parts;obtain⟨J2,ao2,n2,Y2,K2,ap2,m2,Z2,rfl⟩:=hy.parts;go_enter func107,ntmps107;go_upto_region 1 with fail;obtain⟨wx,hwx,r1,r2,hb⟩:=zaH w 32 32 [.bool J1,.slice ao1 n1 Y1,.bool K1,.slice ap1 m1 Z1] [.bool J2,.slice ao2 n2 Y2,.bool K2,.slice ap2 m2 Z2];simp only[List.toArray]at hwx;rw[<-hwx];clear hwx;obtain⟨w1,rfl⟩:=exi wx;obtain⟨g2,hg2⟩:=exi (w.heap.size+1);have Hg2:Hid (w.heap.size<=g2):=hii oM;rw[<-hg2]at r2|-;clear hg2;obtain⟨g1,hg1⟩:=exi (w.heap.size);have Hg1:Hid (w.heap.size<=g1):=hii oM;rw[<-hg1]at r1|-;clear hg1;have hx:=hx.mono hb;have hy:=hy.mono hb;have hs:=hs.mono hb;have hG:=hG.mono hb;have hE:=hE.mono hb;have hbw:=bu hbw hb;clear hb;obtain⟨c0,c1,c2,c3⟩:=r1.n4;obtain⟨d0,d1,d2,d3⟩:=r2.n4;go_wp2_with fail;go_fit (znp _ _ x y w1 hx hy hM hE);rintro e w2⟨hz,hb⟩;obtain⟨J3,ao3,n3,Y3,K3,ap3,m3,Z3,rfl,hp⟩:=hz.rat;have hs:=hs.mono hb;have hG:=hG.mono hb;have hbw:=bu hbw hb;clear hb;clear hz c0 c1 c2 c3 d0 d1 d2 d3 r1 r2 hx hy hE;go_upto_region 2 with fail;obtain⟨w3,g6,hw9,hg9,hb,r6⟩:=bxr w2 [.bool J3,.slice ao3 n3 Y3,.bool K3,.slice ap3 m3 Z3] 32;rw[<-hw9,<-hg9];have Hg6:Hid (w.heap.size<=g6):=hii (by have:=hbw.size;omega);clear hw9 hg9;have hp:=hp.mono hb;have hs:=hs.mono hb;have hG:=hG.mono hb;have hbw:=bu hbw hb;clear hb;obtain⟨J4,ao4,n4,Y4,K4,ap4,m4,Z4,rS,hV⟩:=hs;have hV:=hV rfl;have hSl:=rS.lt;obtain⟨c0,c1,c2,c3,c4⟩:=rS.n5;have f:=rS.free;have HS2:=hii (zn2 (k:=0) rS λ_=>hV);have hk0:zah (λb=>b=g) w3 (w3.setCell (aD_ g 4) (.int .i64 0)):=(zah.refl w3:zah (λb=>b=g) w3 w3).setCell (p:=⟨g,4,none⟩) rfl _;have Hn:Hid (NoU (λb=>b=g) w3):=hii (rS.noU zlV);have Hg6n:Hid (¬g6=g):=hii (by have:=Hgl.o;have:=Hg6.o;omega);have hp:=hp.keptU hk0 Hn.o;have r6:=r6.mono hk0 Hg6n.o;have hG:=hG.kept hk0;have Hk:=hii ((zah.of_below hbw).trans hk0);clear hk0 hV hbw rS hSl Hn;go_upto_region 5 with fail;clear c0 c1 c2 c3 c4 f;generalize w3.setCell (aD_ g 4) (.int .i64 0)=w4 at*;obtain⟨c0,c1,c2,c3⟩:=r6.n4;go_wp2_with fail;go_fit (zkk g r (x*y) 0 _ w4 HS2.o hp (hii (KQ.ok hA.o)) hG.env);rintro e w5⟨rfl,hs,hk⟩;have Hk:=hii (Hk.o.trans hk);clear hk;go_wp2;go_end0;exact⟨rfl,hs,Hk.o⟩
section
variable {α : Type}
def EU(k:Nat)(R:Wo->List Vl->α->Prop)(w:Wo)(ao:OA)(l:List α):Prop :=
 ∀(i:Nat)(a:α),l[i]?=some a->∃b off c,ao=sD b off/\c.length=k/\(∀(j:Nat)(u:Vl),c[j]?=some u->w.cell? ⟨b,off+(i*k+j),none⟩=some u)/\R w c a
def zdh(R:Wo->List Vl->α->Prop):Prop:=∀(G:Nat->Prop)(w w':Wo)(c:List Vl)(a:α),R w c a->zah G w w'->NoU G w->R w' c a
theorem zdh.below{R:Wo->List Vl->α->Prop}(h:zdh R){w w':Wo}{c:List Vl}{a:α}(hr:R w c a)(hb:BH w w'):R w' c a :=
 h (λ_=>False) w w' c a hr (.of_below hb) λg hg=>hg.elim
theorem EU.mono{k:Nat}{R:Wo->List Vl->α->Prop}(hR:zdh R){w w':Wo}{ao:OA}{l:List α}(h:EU k R w ao l)(hb:BH w w'):EU k R w' ao l:=λi a hi=>by
 obtain⟨b,off,c,e,hk,hc,hr⟩:=h i a hi;exact⟨b,off,c,e,hk,λj u hu=>(hb.cell (zaf (hc j u hu))).trans (hc j u hu),hR.below hr hb⟩
theorem EU.nil{k:Nat}{R:Wo->List Vl->α->Prop}(w:Wo)(ao:OA):EU k R w ao ([]:List α):=λi a hi=>by simp at hi
def za6(T:TypeId)(k:Nat)(R:Wo->List Vl->α->Prop)(w:Wo)(B:Nat)(v:Vl)(l:List α):Prop :=
 ∃els:List (List Vl),els.length=l.length/\(∀c∈els,c.length=k)/\w.ownsRow B T k v l.length els.flatten/\zoC w v/\∀(i:Nat)(c:List Vl)(a:α),els[i]?=some c->l[i]?=some a->R w c a
theorem za6.nil{T:TypeId}{k:Nat}{R:Wo->List Vl->α->Prop}(w:Wo)(B:Nat):za6 T k R w B nS_ ([]:List α) :=
 ⟨[],rfl,λc h=>by simp at h,World.ownsRow_nil _ _ _ _,λg hg=>by simp[Value.ownBlock]at hg,λi c a h=>by simp at h⟩
theorem za6.kept{T:TypeId}{k:Nat}{R:Wo->List Vl->α->Prop}(hR:zdh R){G:Nat->Prop}{w w':Wo}{B:Nat}{v:Vl}{l:List α}(h:za6 T k R w B v l)(hk:zah G w w')(hp:NoU G w)(hv:∀b,v.ownBlock=some b->¬G b):za6 T k R w' B v l:=by
 obtain⟨els,h1,h2,h3,h4,h5⟩:=h;refine⟨els,h1,h2,zaZ h3 hk hv,λg hg cur t fr hc=>?_,λi c a hc ha=>hR G w w' c a (h5 i c a hc ha) hk hp⟩;have hlt:=(World.ownsRow.lt h3 g hg).2;exact h4 g hg cur t fr ((hk.block g hlt (hv g hg)).symm.trans hc)
theorem za6.mono{T:TypeId}{k:Nat}{R:Wo->List Vl->α->Prop}(hR:zdh R){w w':Wo}{B:Nat}{v:Vl}{l:List α}(h:za6 T k R w B v l)(hb:BH w w'):za6 T k R w' B v l :=
 h.kept hR (G:=λ_=>False) (.of_below hb) (λg hg=>hg.elim) λ_ _ hg=>hg
theorem za6.lt{T:TypeId}{k:Nat}{R:Wo->List Vl->α->Prop}{w:Wo}{B:Nat}{v:Vl}{l:List α}(h:za6 T k R w B v l):∀b,v.ownBlock=some b->B<=b/\b<w.heap.size:=by
 obtain⟨els,h1,h2,h3,h4,h5⟩:=h;exact World.ownsRow.lt h3
theorem za6.noU{T:TypeId}{k:Nat}{R:Wo->List Vl->α->Prop}{w:Wo}{B:Nat}{v:Vl}{l:List α}(h:za6 T k R w B v l):NoU (λb=>v.ownBlock=some b) w:=by
 obtain⟨els,h1,h2,h3,h4,h5⟩:=h;exact λg hg=>h4 g hg
theorem zfj{k:Nat}:∀(els:List (List Vl)),(∀c∈els,c.length=k)->∀(i:Nat)(c:List Vl),els[i]?=some c->∀(j:Nat)(u:Vl),c[j]?=some u->els.flatten[i*k+j]?=some u
 |[],_,i,c,h=>by simp at h
 |d :: els,hk,i,c,h=>by
  intro j u hu;have hd:=hk d sM
  cases i with
  |zero=>
   simp at h;subst h;have hj:j<d.length:=(List.getElem?_eq_some_iff.1 hu).1;rw[List.flatten_cons,Nat.zero_mul,Nat.zero_add,List.getElem?_append_left hj];exact hu
  |succ i=>
   have:=zfj els (λc hc=>hk c (by simp[hc])) i c (by simpa using h) j u hu;have e:(i+1)*k+j=d.length+(i*k+j):=by rw[hd,Nat.add_mul];omega
   rw[List.flatten_cons,e,List.getElem?_append_right oM,show d.length+(i*k+j)-d.length=i*k+j by omega];exact this
theorem za6.read{T:TypeId}{k:Nat}{R:Wo->List Vl->α->Prop}{w:Wo}{B:Nat}{v:Vl}{l:List α}(h:za6 T k R w B v l):∃ao cap,v=.slice ao l.length cap/\l.length<=cap/\EU k R w ao l:=by
 obtain⟨els,h1,h2,h3,h4,h5⟩:=h;have h30:=h3;rcases h3.2 with⟨rfl,hn⟩|⟨g,cap,cur,rfl,hB,hg,hnc,hcm,hcs,htake⟩
 ·have:l=[]:=List.eq_nil_of_length_eq_zero hn;subst this;exact⟨none,0,rfl,nl,EU.nil _ _⟩
 ·refine⟨some ⟨g,0,none⟩,cap,rfl,hnc,λi a hi=>?_⟩;have hil:i<els.length:=by rw[h1];exact(List.getElem?_eq_some_iff.1 hi).1
  have hc:=gE hil;refine⟨g,0,els[i],rfl,h2 _ (List.getElem_mem hil),λj u hu=>?_,h5 i _ a hc hi⟩;rw[Nat.zero_add];exact zaE h30 (zfj els h2 i _ hc j u hu)
theorem zdK(R:Wo->List Vl->α->Prop)(hR:zdh R){t e:TypeId}{z:Vl}{k nb:Nat}(hs:Tryz.prog.underlying t=some (.slice e))(hi:(Tryz.prog.info? e).map (λi=>(i.zero,i.size,i.bytes))=some (some z,k,nb))
  (hzk:z.cells.size=k)(hk0:0<k)(hnb:nb<=1000)(hzn:∀u∈z.cells.toList,zaM u)
  (w W:Wo)(ty:TypeId)(B:Nat)(v:Vl)(l:List α)(a:α)(bx c:Nat)(news:List Vl)(hown:za6 e k R w B v l)(hB:B<=w.heap.size)(hb:Below B W w)
  (hn:news.length=k)(hc:∀(j:Nat)(u:Vl),news[j]?=some u->w.cell? (aD_ bx j)=some u)(hone:∀u∈news,u.oneCell'=true)(hnl:∀u∈news,zaM u)(hr:R w news a)(hl:l.length<=1000000) :
  ∃v' w',(Builtin.append_ #[t,t] ty #[v,.slice (sD bx 0) 1 c]).run Tryz.prog w=.ok v' w'/\za6 e k R w' B v' (l++[a])/\Below B W w'/\w.grownBy w' v.ownBlock/\(v'.ownBlock=v.ownBlock\/v'.ownBlock=some w.heap.size):=by
 obtain⟨i0,hi,hz0,hz1,hz2⟩:=info_parts hi;obtain⟨els,k1,k2,k3,k4,k5⟩:=hown;have hcn:∀(j:Nat)(u:Vl),news[j]?=some u->w.cell? ((⟨bx,0,none⟩:Addr).add j)=some u:=by
  intro j u hj;have ha:(⟨bx,0,none⟩:Addr).add j=⟨bx,j,none⟩:=by
   unfold Addr.add;split
   ·subst j;rfl
   ·simp
  rw[ha];exact hc j u hj
 have hby:(l.length+1)*i0.bytes<=140737488355328:=by
  rw[hz2];exact Nat.le_trans (Nat.mul_le_mul (show l.length+1<=1000001 by omega) hnb) dM
 obtain⟨v',w',hr1,h3,h4,h5⟩:=zbD (P:=Tryz.prog) w B t ty e i0 z hs hi hz0 (by rw[hz1];exact hzk) (by rw[hz1];exact hk0) v l.length els.flatten (by rw[hz1];exact k3) k4 ⟨bx,0,none⟩ 1 c news (by rw[hz1,Nat.one_mul];exact hn) hcn hone (by unfold maxLen;omega) hby hB oM hzn hnl;obtain⟨v2,w2,hr2,_,_,_,hat⟩:=run_append_own_at (P:=Tryz.prog) w B t ty e i0 z i0.size i0.bytes hs hi hz0 rfl rfl (by rw[hz1];exact hzk) (by rw[hz1];exact hk0) v l.length els.flatten (by rw[hz1];exact k3) ⟨bx,0,none⟩ 1 c news (by rw[hz1,Nat.one_mul];exact hn) hcn hone (by unfold maxLen;omega) hby hB;have he:=hr1.symm.trans hr2;simp only[Result.ok.injEq]at he;obtain⟨rfl,rfl⟩:=he;have hkp:zah (λb=>v.ownBlock=some b) w w':=.of_grown h4;have hnu:NoU (λb=>v.ownBlock=some b) w:=λg hg=>k4 g hg
 refine⟨v',w',hr1,⟨els++[news],by simp[k1],λd hd=>?_,?_,h5,λi d x hd hx=>?_⟩,hb.grown h4 hB λg hg=>(World.ownsRow.lt k3 g hg).1,h4,hat⟩
 ·rcases List.mem_append.1 hd with hd|hd
  ·exact k2 d hd
  ·simp at hd;subst hd;exact hn
 ·rw[hz1]at h3;rw[List.length_append,List.flatten_append,List.flatten_cons,List.flatten_nil,List.append_nil];exact h3
 ·rcases Nat.lt_or_ge i els.length with hl'|hl'
  ·rw[List.getElem?_append_left hl']at hd;rw[List.getElem?_append_left (by rw[<-k1];exact hl')]at hx;exact hR _ _ _ _ _ (k5 i d x hd hx) hkp hnu
  ·rw[List.getElem?_append_right hl']at hd;rw[List.getElem?_append_right (by rw[<-k1];exact hl'),<-k1]at hx;obtain⟨q,hq⟩:∃q,i-els.length=q:=⟨_,rfl⟩;rw[hq]at hd hx
   cases q with
   |zero=>
    simp at hd hx;subst hd;subst hx;exact hR _ _ _ _ _ hr hkp hnu
   |succ q=>simp at hd
variable {ops : Array Oper} {rest : List Oper} {o : Oper} {act : Act} {Q : Exit → Act → Wo → Prop}
theorem zkg(R:Wo->List Vl->α->Prop)(hR:zdh R){t e:TypeId}{z:Vl}{k nb:Nat}(hs:Tryz.prog.underlying t=some (.slice e))(hi:(Tryz.prog.info? e).map (λi=>(i.zero,i.size,i.bytes))=some (some z,k,nb))
  (hzk:z.cells.size=k)(hk0:0<k)(hnb:nb<=1000)(hzn:∀u∈z.cells.toList,zaM u)
  (W X:Wo)(B:Nat)(hgd:o.guard=none)(s x:Operand)(ho:o.op=.call {callee:=.builtin .append,args:=#[s,x],argTypes:=#[t,t]})
  {v:Vl}{l:List α}{a:α}{cs:Array Vl}(hes:act.eval s=v)(hex:act.eval x=.slice (some ⟨W.heap.size,0,none⟩) 1 1)(hown:za6 e k R W B v l)(hB:B<=W.heap.size)(hb:Below B X W)
  (hn:cs.toList.length=k)(hone:∀u∈cs.toList,u.oneCell'=true)(hnl:∀u∈cs.toList,zaM u)(hr:R W cs.toList a)(hl:l.length<=1000000)
  (hK:∀v' w',za6 e k R w' B v' (l++[a])->Below B X w'->zah (λb=>v.ownBlock=some b) W w'->(∀b,v'.ownBlock=some b->v.ownBlock=some b\/W.heap.size<=b)->wpList Tryz.prog ops Q rest (act.put o.dst v') w') :
  wpList Tryz.prog ops Q (o :: rest) act (W.alloc (.cells cs e)):=by
 have hba:=bA W (.cells cs e);have hrow:Row (W.alloc (.cells cs.toList.toArray e)) W.heap.size e cs.toList:=heap_alloc_new _ _;have hcs:cs.toList.toArray=cs:=sM;rw[hcs]at hrow;obtain⟨v',w',h1,h2,h3,h4,h5⟩:=zdK R hR hs hi hzk hk0 hnb hzn (W.alloc (.cells cs e)) X o.type B v l a W.heap.size 1 cs.toList (hown.mono hR hba) (Nat.le_trans hB hba.size) (hb.alloc hB _) hn
  (λj u hu=>by
   obtain⟨hj,rfl⟩:=List.getElem?_eq_some_iff.1 hu;exact hrow.cell hj) hone hnl (hR.below hr hba) hl
 refine wpList_plain hgd λK hK'=>?_
 exact zat s x ho hes hex h1 (hK' _ _ (hK v' w' h2 h3 ((zah.of_below hba).trans (.of_grown h4)) (λb hb'=>by
  rcases h5 with e|e
  ·exact .inl (e▸hb')
  ·rw[hb']at e;simp only[Option.some.injEq]at e;have:=hba.size;exact .inr oM)))
theorem zoq(R:Wo->List Vl->α->Prop)(hR:zdh R){t e:TypeId}{z:Vl}{k nb:Nat}(hs:Tryz.prog.underlying t=some (.slice e))(hi:(Tryz.prog.info? e).map (λi=>(i.zero,i.size,i.bytes))=some (some z,k,nb))
  (hzk:z.cells.size=k)(hk0:0<k)(hnb:nb<=1000)(hzn:∀u∈z.cells.toList,zaM u)
  (W X:Wo)(B:Nat)(hgd:o.guard=none)(s x:Operand)(ho:o.op=.call {callee:=.builtin .append,args:=#[s,x],argTypes:=#[t,t]})
  {v:Vl}{l:List α}{a:α}{cs:Array Vl}(hes:act.eval s=v)(hex:act.eval x=.slice (some ⟨W.heap.size,0,none⟩) 1 1)(hown:za6 e k R W B v l)(hB:B<=W.heap.size)(hb:Below B X W)
  (hn:cs.toList.length=k)(hone:∀u∈cs.toList,u.oneCell'=true)(hnl:∀u∈cs.toList,zaM u)(hr:R W cs.toList a)(hl:l.length<=1000000)
  (hK:∀a' n' c' w',za6 e k R w' B (.slice a' n' c') (l++[a])->Below B X w'->zah (λb=>v.ownBlock=some b) W w'->(∀b,(Value.slice a' n' c').ownBlock=some b->v.ownBlock=some b\/W.heap.size<=b)->wpList Tryz.prog ops Q rest (act.put o.dst (.slice a' n' c')) w') :
  wpList Tryz.prog ops Q (o :: rest) act (W.alloc (.cells cs e)):=by
 refine zkg R hR hs hi hzk hk0 hnb hzn W X B hgd s x ho hes hex hown hB hb hn hone hnl hr hl λv' w' h1 h2 h3 h4=>?_
 obtain⟨a',c',rfl,_,_⟩:=h1.read;exact hK _ _ _ w' h1 h2 h3 h4
end
def FS(w:Wo)(ao:OA)(fs:List (LN)):Prop:=∀(i:Nat)(l:LN),fs[i]?=some l->∃b off al cl,ao=sD b off/\w.cell? ⟨b,off+i,none⟩=some (.slice al l.length cl)/\l.length<=cl/\zaF w al l
theorem FS.mono{w:Wo}{ao:OA}{fs:List (LN)}(h:FS w ao fs)(hb:BH w w'):FS w' ao fs:=λi l hi=>by
 obtain⟨b,off,al,cl,e,hc,hl,hu⟩:=h i l hi;exact⟨b,off,al,cl,e,(hb.cell (zaf hc)).trans hc,hl,hu.mono hb⟩
def zcF:List (LN)->Nat
 |[]=>0
 |l :: r=>if zgb l≠0 then zgb l else zcF r
def zbr:LN->Bool
 |[]=>true
 |x :: _=>decide (x=0)
def setsE(fs:List (LN)):Nat:=if zcF fs≠0 then zcF fs else if fs.any zbr then 9 else 0
theorem zjg(fs:List (LN))(aa:OA)(ca:Nat)(w:Wo)(hl:fs.length<=1000)(ua:FS w aa fs)(h16:Hid (∀l∈fs,l.length<=9223372036854775807/\zaR l)) :
  CP 36 #[.slice aa fs.length ca] w λe w'=>e=.returned (.int .i64 (setsE fs:Nat))/\BH w w':=by
 have hbw:=Below.refl w.heap.size w;obtain⟨E,hE⟩:∃E,setsE fs=E:=⟨_,rfl⟩;rw[hE];have HE:=hii hE;clear hE;obtain⟨N,hN⟩:∃N,fs.length=N:=⟨_,rfl⟩;rw[hN]at hl|-;have HN:=hii hN;clear hN;go_enter func36,ntmps36;go_wp2_with fail;go_loopw [10] (λs wr=>∃k:Nat,k<=N/\s=.int .i64 k/\Hid (zcF fs=zcF (fs.drop k))/\BH w wr) (λs _=>N-(intOf s).toNat)
 case atStart=>exact⟨0,Nat.zero_le _,rfl,hii rfl,hbw⟩
 case round=>
  clear hbw;obtain⟨k,hk,rfl,HF,hbw⟩:=hrel
  by_cases hlt:k<N
  ·obtain⟨l,hx⟩:∃x,fs[k]?=some x:=⟨fs[k]'(by rw[HN.o];exact hlt),gE _⟩;obtain⟨b1,off1,al,cl,ea,hc,hcl,hu⟩:=(ua.mono hbw) k l hx;have hm:=h16.o l (List.mem_of_getElem? hx);have HV:=hii (zg2 l al cl wr hm.1 hcl hu (hii hm.2));have HF2:Hid (zcF fs=if zgb l≠0 then zgb l else zcF (fs.drop (k+1))):=hii (by rw[HF.o,zc3 hx];rfl);clear HF hu hx hm hcl;obtain⟨q,hq⟩:∃q,zgb l=q:=⟨_,rfl⟩;rw[hq]at HV HF2;clear hq;subst ea;go_wp2_with fail;(with_reducible refine HV.o.mono ?_);rintro e w2⟨rfl,hb⟩;have hbw:=bu hbw hb;clear hb HV hc
   by_cases hq0:q=0
   ·subst hq0;have HF3:Hid (zcF fs=zcF (fs.drop (k+1))):=hii (by rw[HF2.o];simp);clear HF2;go_wp2;go_roundw
    case rel=>exact⟨k+1,oM,gM,HF3,hbw⟩
    case measure=>exact mM
   ·have hqn:((q:Int) != 0)=true:=by simp;omega
    have HE2:Hid (E=q):=hii (by rw[<-HE.o];unfold setsE;rw[HF2.o,if_pos hq0,if_pos hq0]);clear HF2 HE;go_wp2;go_ret;exact⟨by rw[HE2.o];rfl,hbw⟩
  ·obtain rfl:k=N:=oM;have HE2:Hid (E=if fs.any zbr then 9 else 0):=hii (by
    rw[<-HE.o];unfold setsE;rw[if_neg];rw[HF.o,List.drop_of_length_le (by rw[HN.o];exact nl)];simp[zcF])
   have hbw0:=hbw;clear HF HE hbw hlt;go_wp2_with fail;go_loopw [22] (λs wr=>∃j:Nat,j<=k/\s=.int .i64 j/\Hid (fs.any zbr=(fs.drop j).any zbr)/\BH w wr) (λs _=>k-(intOf s).toNat)
   case atStart=>exact⟨0,Nat.zero_le _,rfl,hii rfl,hbw0⟩
   case round=>
    clear hbw0;obtain⟨j,hj,rfl,HF,hbw⟩:=hrel
    by_cases hlt:j<k
    ·obtain⟨l,hx⟩:∃x,fs[j]?=some x:=⟨fs[j]'(by rw[HN.o];exact hlt),gE _⟩;obtain⟨b1,off1,al,cl,ea,hc,hcl,hu⟩:=(ua.mono hbw) j l hx;have HF2:Hid (fs.any zbr=(zbr l || (fs.drop (j+1)).any zbr)):=hii (by rw[HF.o,zc3 hx];rfl);clear HF hx hcl;subst ea
     cases l with
     |nil=>
      have HE3:Hid (E=9):=hii (by rw[HE2.o,HF2.o];rfl);clear HF2 HE2 hu;rw[List.length_nil]at hc;exact dH
     |cons x r=>
      obtain⟨b2,off2,ea2,hc2⟩:=hu 0 x rfl;rw[Nat.add_zero]at hc2;obtain⟨n,hn⟩:∃n,(x :: r).length=n:=⟨_,rfl⟩;have hn0:0<n:=by rw[<-hn];simp
      rw[hn]at hc;have hnz:((n:Int)==0)=false:=by simp;omega
      have hni:(0:Int)<(n:Int):=oM;clear hu hn;subst ea2
      by_cases hx0:x=0
      ·subst hx0;have HE3:Hid (E=9):=hii (by rw[HE2.o,HF2.o];rfl);clear HF2 HE2;exact dH
      ·have hxz:((x:Int)==0)=false:=by simp;omega
       have HF3:Hid (fs.any zbr=(fs.drop (j+1)).any zbr):=hii (by rw[HF2.o];simp[zbr,hx0]);clear HF2;go_wp2;go_roundw
       case rel=>exact⟨j+1,oM,gM,HF3,hbw⟩
       case measure=>exact mM
    ·obtain rfl:j=k:=oM;have HE3:Hid (E=0):=hii (by rw[HE2.o,HF.o,List.drop_of_length_le (by rw[HN.o];exact nl)];rfl);clear HF HE2;exact dH
theorem zj8{r:Rat}(h:0<r):Rq.cmpQ r 0=1:=by
 unfold Rq.cmpQ;rw[if_neg (Rat.not_lt.2 (Rat.le_of_lt h)),if_pos h]
theorem zd0{b:Rat}(h:b<=a):0<=Rq.cmpQ a b:=by
 unfold Rq.cmpQ;rw[if_neg (Rat.not_lt.2 h)]
 split<;>decide
theorem zj9{b:Rat}(h:a<=b):Rq.cmpQ a b<=0:=by
 unfold Rq.cmpQ
 split
 ·decide
 ·rw[if_neg (Rat.not_lt.2 h)];decide
theorem Row.n11{w:Wo}{E:TypeId}{a b c d e f x y z p q:Vl}(h:Row w g E [a,b,c,d,e,f,x,y,z,p,q]):w.cell? (aD_ g 0)=some a/\w.cell? (aD_ g 1)=some b/\w.cell? (aD_ g 2)=some c/\w.cell? (aD_ g 3)=some d/\w.cell? (aD_ g 4)=some e/\w.cell? (aD_ g 5)=some f/\w.cell? (aD_ g 6)=some x/\w.cell? (aD_ g 7)=some y/\w.cell? (aD_ g 8)=some z/\w.cell? (aD_ g 9)=some p/\w.cell? (aD_ g 10)=some q :=
 ⟨h.cell (k:=0) sM,h.cell (k:=1) sM,h.cell (k:=2) sM,h.cell (k:=3) sM,h.cell (k:=4) sM,h.cell (k:=5) sM,h.cell (k:=6) sM,h.cell (k:=7) sM,h.cell (k:=8) sM,h.cell (k:=9) sM,h.cell (k:=10) sM⟩
def zd4(w:Wo)(g:Nat)(R S:LN)(f:Rat)(cap:List Rat):Prop:=∃aR cR aS cS J1 ao1 n1 Y1 K1 ap1 m1 Z1 J2 ao2 n2 Y2 K2 ap2 m2 Z2 aC cC,Row w g 143 [.slice aR R.length cR,.slice aS S.length cS,.bool J1,.slice ao1 n1 Y1,.bool K1,.slice ap1 m1 Z1,.bool J2,.slice ao2 n2 Y2,.bool K2,.slice ap2 m2 Z2,.slice aC cap.length cC]/\zaF w aR R/\zaF w aS S/\zad w (qA J1 ao1 n1 Y1 K1 ap1 m1 Z1) f/\zad w (qA J2 ao2 n2 Y2 K2 ap2 m2 Z2) (1-f)/\UQ w aC (cap.map some)
theorem zd4.mono{w:Wo}{cap:List Rat}(h:zd4 w g R S f cap)(hb:BH w w'):zd4 w' g R S f cap:=by
 obtain⟨aR,cR,aS,cS,J1,ao1,n1,Y1,K1,ap1,m1,Z1,J2,ao2,n2,Y2,K2,ap2,m2,Z2,aC,cC,h1,h2,h3,h4,h5,h6⟩:=h;exact⟨aR,cR,aS,cS,J1,ao1,n1,Y1,K1,ap1,m1,Z1,J2,ao2,n2,Y2,K2,ap2,m2,Z2,aC,cC,h1.below hb,h2.mono hb,h3.mono hb,h4.mono hb,h5.mono hb,h6.mono hb⟩
theorem WkM.crF{cap:List Rat}{m:Nat}(W:WkM R S f cap m):CrS f 0/\CrS f 1/\zku 1 f/\∀c∈cap,CrS c 0:=by
 have h1:Kb 1 f:=zcs (D:=((12:Nat):Int)) dM dM W.wf dM;have h0:Kb 1 0:=zbQ (Sx.wh_zero.mono (Nat.zero_le 1)) dM;have h2:Kb 1 1:=zbQ zei dM;exact⟨h1.crS h0 dM,h1.crS h2 dM,h2.subS h1 dM,λc hc=>(zcs (D:=((12:Nat):Int)) dM dM (W.wc c hc) dM:Kb 1 c).crS h0 dM⟩
theorem FS.two{w:Wo}{b:Nat}{aR aS:OA}{cR cS:Nat}{E:TypeId}(r:Row w b E [.slice aR R.length cR,.slice aS S.length cS])(hR:R.length<=cR)(hS:S.length<=cS)(uR:zaF w aR R)(uS:zaF w aS S):FS w (sD b 0) [R,S]:=λi l hi=>by
 match i,hi with
 |0,hi=>cases hi;exact⟨b,0,aR,cR,rfl,r.cell (k:=0) sM,hR,uR⟩
 |1,hi=>cases hi;exact⟨b,0,aS,cS,rfl,r.cell (k:=1) sM,hS,uS⟩
 |i+2,hi=>simp at hi
theorem zfA.notE{l:LN}{n:Nat}(h:zfA l n):zbr l=false:=by
 have h1:=h.len.1
 cases l with
 |nil=>simp at h1
 |cons x l=>exact decide_eq_false (h.ne x sM)
theorem WkM.setsE{cap:List Rat}{m:Nat}(W:WkM R S f cap m):setsE [R,S]=0:=by
 have hm:=W.hm;unfold Go.Proofs.YtfgffkmddanjjaaGreatDoor.setsE zcF zcF zcF;simp[W.fR.err oM,W.fS.err oM,W.fR.notE,W.fS.notE]
theorem zoc(v:Vl)(r:Rat)(w:Wo)(h:zad w v r)(hE:Env w) :
  CP 102 #[v] w λe w'=>e=.returned bF_/\BH w w':=by
 have hbw:=Below.refl w.heap.size w;obtain⟨J1,ao1,n1,Y1,K1,ap1,m1,Z1,rfl⟩:=h.parts;go_enter func102,ntmps102;go_upto_region 1 with fail;obtain⟨w1,g3,hw9,hg9,hb,r3⟩:=bxr w [.bool J1,.slice ao1 n1 Y1,.bool K1,.slice ap1 m1 Z1] 32;rw[<-hw9,<-hg9];have Hg3:Hid (w.heap.size<=g3):=hii (by have:=hbw.size;omega);clear hw9 hg9;have h:=h.mono hb;have hE:=hE.mono hb;have hbw:=bu hbw hb;clear hb;obtain⟨c0,c1,c2,c3⟩:=r3.n4;go_wp2_with fail;go_fit (zay _ r w1 h hE);rintro e w2⟨rfl,hb⟩;exact dS
theorem zob(v:Vl)(r:Rat)(g:Nat){J2:Bool}{ao2:OA}{Y2:Nat}{K2:Bool}{ap2:OA}{m2 Z2:Nat}(w:Wo)(h:zad w v r)(hr:Hid (0<r))(hC:Hid (CrS r 0))(rz:Row w g 32 [.bool J2,.slice ao2 n2 Y2,.bool K2,.slice ap2 m2 Z2])(hz:zad w (qA J2 ao2 n2 Y2 K2 ap2 m2 Z2) 0)(hE:Env w) :
  CP 103 #[v,pT g 0] w λe w'=>e=.returned bF_/\BH w w':=by
 have hbw:=Below.refl w.heap.size w;obtain⟨J1,ao1,n1,Y1,K1,ap1,m1,Z1,rfl⟩:=h.parts;go_enter func103,ntmps103;go_upto_region 1 with fail;obtain⟨w1,g3,hw9,hg9,hb,r3⟩:=bxr w [.bool J1,.slice ao1 n1 Y1,.bool K1,.slice ap1 m1 Z1] 32;rw[<-hw9,<-hg9];have Hg3:Hid (w.heap.size<=g3):=hii (by have:=hbw.size;omega);clear hw9 hg9;have h:=h.mono hb;have hz:=hz.mono hb;have hE:=hE.mono hb;have rz:=rz.below hb;have hbw:=bu hbw hb;clear hb;obtain⟨c0,c1,c2,c3⟩:=r3.n4;obtain⟨d0,d1,d2,d3⟩:=rz.n4;have HC:=za3 _ _ r 0 w1 h hz hC hE;rw[zj8 hr.o]at HC;go_wp2_with fail;(with_reducible refine HC.mono ?_);rintro e w2⟨rfl,hb⟩;have hbw:=bu hbw hb;clear hb HC;exact cP
theorem zco(R S:LN)(f:Rat)(cap:List Rat)(m:Nat)(HW:Hid (WkM R S f cap m))(aR aS aC:OA)(cR cS cC:Nat)(vf:Vl)(w:Wo)(hcR:R.length<=cR)(hcS:S.length<=cS)(uR:zaF w aR R)(uS:zaF w aS S)(hf:zad w vf f)(uC:UQ w aC (cap.map some))(hE:Env w) :
  CP 56 #[.slice aR R.length cR,.slice aS S.length cS,vf,.slice aC cap.length cC] w λe w'=>(∃g,e=.returned (.tuple #[pT g 0,.int .i64 0])/\w.heap.size<=g/\zd4 w' g R S f cap)/\BH w w':=by
 have hbw:=Below.refl w.heap.size w;obtain⟨J1,ao1,n1,Y1,K1,ap1,m1,Z1,rfl⟩:=hf.parts;have hm:=HW.o.hm;have hR4:=HW.o.fR.len;have hS4:=HW.o.fS.len;obtain⟨HC1,HC2,HC3,HC4⟩:=HW.o.crF;have HC1:=hii HC1;have HC2:=hii HC2;have HC3:=hii HC3;have HC4:=hii HC4;have HR16:=hii (HW.o.fR.s16 oM);have HS16:=hii (HW.o.fS.s16 oM);obtain⟨cn,hN⟩:∃cn,cap.length=cn:=⟨_,rfl⟩;have hNm:cn=m:=by rw[<-hN,HW.o.lc]
 have hN1:1<=cn/\cn<=5:=oM;have HLc:Hid ((cap.map (some:Rat->Qo)).length=cn):=hii (by rw[List.length_map,hN]);obtain⟨u,hu⟩:∃u,zec R ||| zec S=u:=⟨_,rfl⟩
 have hu2:u<2 ^ cn:=by rw[<-hu,hNm];exact Nat.or_lt_two_pow HW.o.fR.uni HW.o.fS.uni
 have hor:=zpv (zec R) (zec S) (zgx HR16.o) (zgx HS16.o);rw[hu]at hor;have hsh:(u:Int) / 2 ^ cn=0:=by
  have e:(u:Int) / 2 ^ cn=((u / 2 ^ cn:Nat):Int):=by push_cast;rfl
  rw[e,Nat.div_eq_of_lt hu2];rfl
 have HSF:=HW.o.setsE;have Hhor:=hii hor;have Hhsh:=hii hsh;have Hhc0:Hid (0<=Rq.cmpQ f 0):=hii (zd0 HW.o.f0);have Hhc1:Hid (Rq.cmpQ f 1<=0):=hii (zj9 HW.o.f1);have Hpc:Hid (∀c∈cap,0<c):=hii HW.o.pc;have HNN:=hii hN;clear hm hNm hu hu2 hor hsh;rw[hN];clear hN;go_enter func56,ntmps56;go_upto_region 1 with fail;obtain⟨w1,g6,hw9,hg9,hb,r6⟩:=bxr w [.bool J1,.slice ao1 n1 Y1,.bool K1,.slice ap1 m1 Z1] 32;rw[<-hw9,<-hg9];have Hg6:Hid (w.heap.size<=g6):=hii (by have:=hbw.size;omega);clear hw9 hg9;have hf:=hf.mono hb;have uR:=uR.mono hb;have uS:=uS.mono hb;have uC:=uC.mono hb;have hE:=hE.mono hb;have hbw:=bu hbw hb;clear hb;go_wp2_with fail;obtain⟨w2,gs,hw9,hg9,hb,rs⟩:=bxr w1 [.slice aR R.length cR,.slice aS S.length cS] 27;rw[<-hw9,<-hg9];have Hgs:Hid (w.heap.size<=gs):=hii (by have:=hbw.size;omega);clear hw9 hg9;have hf:=hf.mono hb;have uR:=uR.mono hb;have uS:=uS.mono hb;have uC:=uC.mono hb;have hE:=hE.mono hb;have r6:=r6.below hb;have hbw:=bu hbw hb;clear hb;have HSs:=zjg [R,S] (sD gs 0) 2 w2 sM (FS.two rs hcR hcS uR uS) (hii (by
  intro l hl;simp at hl;rcases hl with rfl|rfl
  ·exact⟨oM,HR16.o⟩
  ·exact⟨oM,HS16.o⟩))
 rw[HSF,show [R,S].length=2 from rfl]at HSs;(with_reducible refine HSs.mono ?_);rintro e w3⟨rfl,hb⟩;have hf:=hf.mono hb;have uR:=uR.mono hb;have uS:=uS.mono hb;have uC:=uC.mono hb;have hE:=hE.mono hb;have r6:=r6.below hb;have hbw:=bu hbw hb;clear hb;clear HSs HSF rs;obtain⟨c0,c1,c2,c3⟩:=r6.n4;go_wp2_with fail;go_fit (zay _ f w3 hf hE);rintro e w4⟨rfl,hb⟩;have hf:=hf.mono hb;have uR:=uR.mono hb;have uS:=uS.mono hb;have uC:=uC.mono hb;have hE:=hE.mono hb;have r6:=r6.below hb;have hbw:=bu hbw hb;clear hb;clear c0 c1 c2 c3;have eg1:∀args w,(callFunc 102 args).run Tryz.prog w=.ok (.enter 102 args) w:=enters_of func102 (by kernel_rfl) rfl;have HK1:=zbo 102 #[] (λ_=>false) eg1 (cap.map some) aC cC w4 (by rw[HLc.o];omega) uC hE (λo v W ho hv hEW hb=>by
  obtain⟨r,_,rfl⟩:=List.mem_map.1 ho;exact zoc v r W hv hEW)
 rw[HLc.o,show((cap.map (some:Rat->Qo)).any λ_=>false)=false from List.any_eq_false.2 λ_ _=>by simp]at HK1;go_wp2_with fail;(with_reducible refine HK1.mono ?_);rintro e w5⟨rfl,hb⟩;have hf:=hf.mono hb;have uR:=uR.mono hb;have uS:=uS.mono hb;have uC:=uC.mono hb;have hE:=hE.mono hb;have r6:=r6.below hb;have hbw:=bu hbw hb;clear hb;clear HK1 eg1;have hd1:decide ((cn:Int)<1)=false:=decide_eq_false oM;have hd2:decide ((12:Int)<(cn:Int))=false:=decide_eq_false oM;go_wp2_with fail;go_fit (zaK 0 dM dM w5 hE);rintro e w6⟨hz,hb⟩;have hf:=hf.mono hb;have uR:=uR.mono hb;have uS:=uS.mono hb;have uC:=uC.mono hb;have hE:=hE.mono hb;have r6:=r6.below hb;have hbw:=bu hbw hb;clear hb;clear hd1 hd2;obtain⟨J2,ao2,n2,Y2,K2,ap2,m2,Z2,rfl,hZ⟩:=hz.rat;have hZ:zad w6 (qA J2 ao2 n2 Y2 K2 ap2 m2 Z2) 0:=hZ;clear hz;go_upto_region 10 with fail;obtain⟨w7,gz,hw9,hg9,hb,rz⟩:=bxr w6 [.bool J2,.slice ao2 n2 Y2,.bool K2,.slice ap2 m2 Z2] 32;rw[<-hw9,<-hg9];have Hgz:Hid (w.heap.size<=gz):=hii (by have:=hbw.size;omega);clear hw9 hg9;have hf:=hf.mono hb;have hZ:=hZ.mono hb;have uR:=uR.mono hb;have uS:=uS.mono hb;have uC:=uC.mono hb;have hE:=hE.mono hb;have r6:=r6.below hb;have hbw:=bu hbw hb;clear hb;have eg2:∀args w,(callFunc 103 args).run Tryz.prog w=.ok (.enter 103 args) w:=enters_of func103 (by kernel_rfl) rfl;have HK2:∀W,BH w7 W->CP 101 #[.slice aC cn cC,.func (.func 103) #[] #[pT gz 0]] W λe w'=>e=.returned bF_/\BH W w':=λW hW=>by
  have h:=zbo 103 #[pT gz 0] (λ_=>false) eg2 (cap.map some) aC cC W (by rw[HLc.o];omega) (uC.mono hW) (hE.mono hW) (λo v W' ho hv hEW hb=>by
   obtain⟨r,hr,rfl⟩:=List.mem_map.1 ho;exact zob v r gz W' hv (hii (Hpc.o r hr)) (hii (HC4.o r hr)) (rz.below (bu hW hb)) (hZ.mono (bu hW hb)) hEW)
  rw[HLc.o,show((cap.map (some:Rat->Qo)).any λ_=>false)=false from List.any_eq_false.2 λ_ _=>by simp]at h;exact h
 have HK2:=hii HK2;have HS1:Hid (∀W,BH w7 W->CP 37 #[.slice aR R.length cR] W λe w'=>e=.returned (.int .u16 (zec R:Nat))/\BH W w'):=hii λW hW=>zdg R aR cR W oM (uR.mono hW) HR16
 have HS2:Hid (∀W,BH w7 W->CP 37 #[.slice aS S.length cS] W λe w'=>e=.returned (.int .u16 (zec S:Nat))/\BH W w'):=hii λW hW=>zdg S aS cS W oM (uS.mono hW) HS16
 have HP1:Hid (∀v1 v2 W,zad W v1 f->zad W v2 0->Env W->CP 70 #[v1,v2] W λe w'=>e=.returned (.int .i64 (Rq.cmpQ f 0))/\BH W w'):=hii λv1 v2 W h1 h2 h3=>za3 v1 v2 f 0 W h1 h2 HC1 h3
 have HP2:Hid (∀v1 v2 W,zad W v1 f->zad W v2 1->Env W->CP 70 #[v1,v2] W λe w'=>e=.returned (.int .i64 (Rq.cmpQ f 1))/\BH W w'):=hii λv1 v2 W h1 h2 h3=>za3 v1 v2 f 1 W h1 h2 HC2 h3
 obtain⟨x0,hx0⟩:∃x,Rq.cmpQ f 0=x:=⟨_,rfl⟩;obtain⟨x1,hx1⟩:∃x,Rq.cmpQ f 1=x:=⟨_,rfl⟩;obtain⟨a,ha⟩:∃x,zec R=x:=⟨_,rfl⟩;obtain⟨b,hb'⟩:∃x,zec S=x:=⟨_,rfl⟩;rw[hx0]at HP1 Hhc0;rw[hx1]at HP2 Hhc1;rw[ha]at HS1 Hhor;rw[hb']at HS2 Hhor;have hd1:decide (x0<0)=false:=decide_eq_false (by have:=Hhc0.o;omega);have hd2:decide (0<x1)=false:=decide_eq_false (by have:=Hhc1.o;omega);have hor:=Hhor.o;have hsh:=Hhsh.o;have hN12:((cn:Int)<64):=oM;clear hx0 hx1 ha hb' eg2;refine zae (wx:=w7) [vf (.agg #[.bool J1,.slice ao1 n1 Y1,.bool K1,.slice ap1 m1 Z1]),vf (.agg #[.bool J2,.slice ao2 n2 Y2,.bool K2,.slice ap2 m2 Z2]),vf (.int .i64 x0),vf bF_,vf bF_,vf (.agg #[.bool J1,.slice ao1 n1 Y1,.bool K1,.slice ap1 m1 Z1]),(λW v=>zad W v 1),vf (.int .i64 x1),vf bF_,vf bF_,vf bF_,vf (.slice aR R.length cR),vf (.int .u16 (a:Nat)),vf (.slice aS S.length cS),vf (.int .u16 (b:Nat)),vf (.int .u16 (u:Nat)),vf (.int .i64 (cn:Nat)),vf (.int .u16 0),vf bF_,vf bF_,vf bF_,vf (.slice aC cn cC),vf (.func (.func 103) #[] #[pT gz 0]),vf bF_,vf bF_] [38,39,40,41,42,43,44,45,46,47,48,49,50,51,52,53,54,55,56,57,58,59,60,61,62] br ⟨sV _,sV _,sV _,sV _,sV _,sV _,(λ_ _ _ h hb=>h.mono hb),sV _,sV _,sV _,sV _,sV _,sV _,sV _,sV _,sV _,sV _,sV _,sV _,sV _,sV _,sV _,sV _,sV _,sV _,trivial⟩ ⟨?s0,?s1,?s2,tV,tV,?s5,?s6,?s7,tV,tV,tV,tV,?s12,tV,?s14,tV,tV,tV,tV,tV,tV,tV,tV,?s23,tV,trivial⟩ ?he
 case' s0|s1|s2|s5|s6|s7|s12|s14|s23=>
  rintro T W hb hA K hK;simp only[yA,Region.binds]at hA;simp only[sA,hA]at hK|-
 case' s0|s1|s2|s5|s6|s12|s14|s23=>
  have HK:=hii hK;clear hK hA
 case' s0|s5=>
  obtain⟨c0,c1,c2,c3⟩:=(r6.below hb).n4
 case' s1=>
  obtain⟨d0,d1,d2,d3⟩:=(rz.below hb).n4
 case s0|s1|s5=>
  exact cH
 case s2=>
  refine wO rfl ?_;go_simp;go_fit (HP1.o _ _ W (hf.mono hb) (hZ.mono hb) (hE.mono hb));rintro e w1⟨rfl,hb1⟩
  try dsimp only
  exact d6
 case s6=>
  refine wO rfl ?_;go_simp;go_fit (zaK 1 dM dM W (hE.mono hb));rintro e w1⟨hz,hb1⟩;obtain⟨J5,ao5,n5,Y5,K5,ap5,m5,Z5,rfl,hV5⟩:=hz.rat
  try dsimp only
  exact HK.o _ _ hb1 (hV5)
 case s12=>
  refine wO rfl ?_;go_simp;go_fit (HS1.o W hb);rintro e w1⟨rfl,hb1⟩
  try dsimp only
  exact d6
 case s14=>
  refine wO rfl ?_;go_simp;go_fit (HS2.o W hb);rintro e w1⟨rfl,hb1⟩
  try dsimp only
  exact d6
 case s23=>
  refine wO rfl ?_;go_simp;go_fit (HK2.o W hb);rintro e w1⟨rfl,hb1⟩
  try dsimp only
  exact d6
 case s7=>
  have r6:=hA.2.1;have HK:=hii hK;clear hK hA;have r6:zad W _ 1:=r6;obtain⟨J6,ao6,n6,Y6,K6,ap6,m6,Z6,e6⟩:=r6.parts;rw[e6]at r6;simp only[e6]at HK|-;refine wO rfl ?_;go_simp;go_fit (HP2.o _ _ W (hf.mono hb) r6 (hE.mono hb));rintro e w1⟨rfl,hb1⟩
  try dsimp only
  exact d6
 case he=>
  rintro T W hb hA;have f24:T 62=bF_:=hA.at 24 dM;simp only[sA,f24];have hf:=hf.mono hb;have uR:=uR.mono hb;have uS:=uS.mono hb;have uC:=uC.mono hb;have hE:=hE.mono hb;have r6:=r6.below hb;have hbw:=bu hbw hb;clear hb;clear hA f24 HP1 HP2 HS1 HS2 HK2 rz hd1 hd2 hor hsh;obtain⟨w8,rfl⟩:=exi W;go_upto_region 12 with fail;refine zan (wx:=w8) (λ_=>False) [(λG X W=>((FQ 1):FV) G W (X 0)),(λ_ X _=>X 1=.agg #[.bool J1,.slice ao1 n1 Y1,.bool K1,.slice ap1 m1 Z1]),(λG X W=>((λ_ W v=>∃a,v=.tuple #[a,.int .i64 0]/\zad W a (1-f)):FV) G W (X 2)),(λG X W=>((λ_ W v=>∃a,v=.tuple #[a,.int .i64 0]/\zad W a (1-f)):FV) G W (X 3)),(λG X W=>((FQ (1-f)):FV) G W (X 4)),(λ_ X _=>X 5=.int .i64 0),(λ_ _ _=>True),(λ_ _ _=>True),(λ_ X _=>X 8=.int .i64 0)] [some 64,some 65,some 66,some 63,some 67,some 68,some 13,none,some 14] [none,none,none,none,none,none,some ⟨7,4,32,[bF_,nS_,bF_,nS_]⟩,none,none] [64,65,66,63,67,68,13,14] ⟨(by intro u hu k z e;subst e;simp at hu),trivial⟩ (λb h=>h) br ⟨zaQ _,zaa _ _ _,(zaq (F:=λ_ W v=>∃a,v=.tuple #[a,.int .i64 0]/\zad W a (1-f)) λG G' W W' v ⟨a,e,h⟩ hk hn hG=>⟨a,e,h.kept hk hn⟩),(zaq (F:=λ_ W v=>∃a,v=.tuple #[a,.int .i64 0]/\zad W a (1-f)) λG G' W W' v ⟨a,e,h⟩ hk hn hG=>⟨a,e,h.kept hk hn⟩),zaQ _,zaa _ _ _,zaj _,zaj _,zaa _ _ _,trivial⟩ ⟨⟨λ_ _ _=>trivial,λ_ _ _=>trivial⟩,trivial⟩ ⟨?s0,?s1,?s2,?s3,?s4,?s5,?s6,?s7,tX,trivial⟩ ⟨?b6,trivial⟩ ?he
  case' s0|s1|s2|s3|s4|s5=>
   rintro-G T W hb hHG hGW hGo hNG hA K hK;simp only[yA,yB,Region.binds]at hA;simp only[sA,hA]at hK|-
  case' s0|s1=>
   have HK:=hii hK;clear hK hA
  case s0=>
   refine wO rfl ?_;go_simp;go_fit (zaK 1 dM dM W (hE.mono hb));rintro e w1⟨hz,hb1⟩;obtain⟨J5,ao5,n5,Y5,K5,ap5,m5,Z5,rfl,hV5⟩:=hz.rat;have hV5:zad w1 (qA J5 ao5 n5 Y5 K5 ap5 m5 Z5) 1:=hV5
   try dsimp only
   exact HK.o _ _ (hb1) λX hX _=>by
    show((FQ 1):FV) G _ (X 0)
    rw[hX];exact hV5
  case s1=>
   obtain⟨c0,c1,c2,c3⟩:=(r6.below hb).n4;exact cK
  case s2=>
   have r0:((FQ 1):FV) G W (T 64):=hA.1;have r0:zad W _ 1:=r0;obtain⟨J6,ao6,n6,Y6,K6,ap6,m6,Z6,e0⟩:=r0.parts;rw[e0]at r0;simp only[e0]at hK|-;have HK:=hii hK;clear hK hA;refine wO rfl ?_;go_simp;go_fit (zot _ _ 1 f W r0 (hf.mono hb) HC3 (hE.mono hb));rintro e w1⟨hz,hb1⟩;obtain⟨J7,ao7,n7,Y7,K7,ap7,m7,Z7,rfl,hV7⟩:=hz.rat
   try dsimp only
   exact HK.o _ _ (hb1) λX hX _=>by
    show((λ_ W v=>∃a,v=.tuple #[a,.int .i64 0]/\zad W a (1-f)):FV) G _ (X 2)
    exact dQ
  case s3=>
   have r2:((λ_ W v=>∃a,v=.tuple #[a,.int .i64 0]/\zad W a (1-f)):FV) G W (T 66):=hA.1;obtain⟨a6,e2,h6⟩:=r2;simp only[e2]at hK|-;have HK:=hii hK;clear hK hA;refine wO rfl ?_;go_simp;exact HK.o _ _ br λX hX _=>by
    show((λ_ W v=>∃a,v=.tuple #[a,.int .i64 0]/\zad W a (1-f)):FV) G _ (X 3)
    exact dL
  case s4=>
   have r3:((λ_ W v=>∃a,v=.tuple #[a,.int .i64 0]/\zad W a (1-f)):FV) G W (T 63):=hA.1;obtain⟨a6,e3,h6⟩:=r3;simp only[e3]at hK|-;have HK:=hii hK;clear hK hA;refine wO rfl ?_;go_simp;exact HK.o _ _ br λX hX _=>by
    show((FQ (1-f)):FV) G _ (X 4)
    exact eM
  case s5=>
   have r3:((λ_ W v=>∃a,v=.tuple #[a,.int .i64 0]/\zad W a (1-f)):FV) G W (T 63):=hA.1;obtain⟨a6,e3,h6⟩:=r3;simp only[e3]at hK|-;exact dB
  case s6=>exact λh=>absurd h dM
  case s7=>exact λh=>absurd h dM
  case b6=>
   refine⟨?_,?_⟩
   ·exact cG
   ·rintro o ho G T W nb hA hp hrow K hK;obtain rfl:=Option.some.inj ho;have ep:T 13=.pointer (sD nb 0):=hp;have r4:((FQ (1-f)):FV) G W (T 67):=hA.2.1;have r4:zad W _ (1-f):=r4;exact dA
  case he=>
   rintro GG N T W hb hHG hGW hGo hbox hNG hne hA;have fv:((FQ (1-f)):FV) GG W (T 67):=hA.at 4 dM;have f8:T 14=.int .i64 0:=hA.at 8 dM;obtain⟨ep,_,hge,vs,hsto,hrow⟩:=hbox 6 _ rfl;have ep:T 13=.pointer (some ⟨N 6,0,none⟩):=ep;have fv:zad W _ (1-f):=fv;obtain⟨J5,ao5,n5,Y5,K5,ap5,m5,Z5,e5⟩:=fv.parts;obtain rfl:=hsto.four e5;rw[e5]at fv;simp only[sA,ep,f8];have hf:=hf.mono hb;have uR:=uR.mono hb;have uS:=uS.mono hb;have uC:=uC.mono hb;have r6:=r6.below hb;have hbw:=bu hbw hb;clear hb;clear hA hbox hNG hne hHG hGW hGo ep f8 hsto hge e5;obtain⟨c0,c1,c2,c3⟩:=r6.n4;obtain⟨d0,d1,d2,d3⟩:=Row.n4 hrow;obtain⟨w9,rfl⟩:=exi W;go_wp2;go_ret2;have hq:=bA w9 (.cells #[.slice aR R.length cR,.slice aS S.length cS,.bool J1,.slice ao1 n1 Y1,.bool K1,.slice ap1 m1 Z1,.bool J5,.slice ao5 n5 Y5,.bool K5,.slice ap5 m5 Z5,.slice aC cn cC] 143);refine⟨⟨w9.heap.size,rfl,hbw.size,aR,cR,aS,cS,J1,ao1,n1,Y1,K1,ap1,m1,Z1,J5,ao5,n5,Y5,K5,ap5,m5,Z5,aC,cC,?_,uR.mono hq,uS.mono hq,hf.mono hq,fv.mono hq,uC.mono hq⟩,bu hbw hq⟩;rw[HNN.o];exact heap_alloc_new _ _
end Go.Proofs.YtfgffkmddanjjaaGreatDoor
