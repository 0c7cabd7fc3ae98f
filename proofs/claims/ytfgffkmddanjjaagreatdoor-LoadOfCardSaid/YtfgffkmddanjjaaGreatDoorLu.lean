/-
  load: the examples of the chapter.
-/
import Derived.Test.YtfgffkmddanjjaaGreatDoorLs1
set_option linter.unusedVariables false
set_option linter.unusedSimpArgs false
set_option maxRecDepth 100000
set_option maxHeartbeats 25600000
namespace Go.Proofs.YtfgffkmddanjjaaGreatDoor
open _root_.Go.Proofs.Tryz
open Go.RowKit
variable {J1 J2 K2:Bool} {l:LN} {Y1 Y2 Z1 Z2 a g m1 m2 n1 n2:Nat} {ao1 ao2 ap1 ap2:OA}
theorem zpM{w:Wo}{E:TypeId}{b c:Nat}(r:Row w g E [.int .u16 (a:Nat),.int .u16 (b:Nat),.int .u16 (c:Nat)]):zaF w (sD g 0) [a,b,c]:=λi x hi=>by
 match i,hi with
 |0,hi=>cases hi;exact⟨g,0,rfl,r.cell (k:=0) sM⟩
 |1,hi=>cases hi;exact⟨g,0,rfl,r.cell (k:=1) sM⟩
 |2,hi=>cases hi;exact⟨g,0,rfl,r.cell (k:=2) sM⟩
 |i+3,hi=>simp at hi
theorem uq3{w:Wo}{K1:Bool}{J3:Bool}{ao3:OA}{n3 Y3:Nat}{K3:Bool}{ap3:OA}{m3 Z3:Nat}{a b c:Rat}(r:Row w g 32 [.bool J1,.slice ao1 n1 Y1,.bool K1,.slice ap1 m1 Z1,.bool J2,.slice ao2 n2 Y2,.bool K2,.slice ap2 m2 Z2,.bool J3,.slice ao3 n3 Y3,.bool K3,.slice ap3 m3 Z3])(h1:zad w (qA J1 ao1 n1 Y1 K1 ap1 m1 Z1) a)(h2:zad w (qA J2 ao2 n2 Y2 K2 ap2 m2 Z2) b)(h3:zad w (qA J3 ao3 n3 Y3 K3 ap3 m3 Z3) c):UQ w (sD g 0) [some a,some b,some c]:=λi o hi=>by
 match i,hi with
 |0,hi=>cases hi;exact⟨g,0,J1,ao1,n1,Y1,K1,ap1,m1,Z1,rfl,⟨r.cell (k:=0) sM,r.cell (k:=1) sM,r.cell (k:=2) sM,r.cell (k:=3) sM,trivial,trivial,trivial,trivial⟩,h1⟩
 |1,hi=>cases hi;exact⟨g,0,J2,ao2,n2,Y2,K2,ap2,m2,Z2,rfl,⟨r.cell (k:=4) sM,r.cell (k:=5) sM,r.cell (k:=6) sM,r.cell (k:=7) sM,trivial,trivial,trivial,trivial⟩,h2⟩
 |2,hi=>cases hi;exact⟨g,0,J3,ao3,n3,Y3,K3,ap3,m3,Z3,rfl,⟨r.cell (k:=8) sM,r.cell (k:=9) sM,r.cell (k:=10) sM,r.cell (k:=11) sM,trivial,trivial,trivial,trivial⟩,h3⟩
 |i+3,hi=>simp at hi
theorem eu2{w:Wo}{K1:Bool}{a b:Rat}(r:Row w g 59 [.int .u16 ((0:Nat):Int),.int .u16 ((0:Nat):Int),.bool J1,.slice ao1 n1 Y1,.bool K1,.slice ap1 m1 Z1,.int .u16 ((0:Nat):Int),.int .u16 ((0:Nat):Int),.bool J2,.slice ao2 n2 Y2,.bool K2,.slice ap2 m2 Z2])(h1:zad w (qA J1 ao1 n1 Y1 K1 ap1 m1 Z1) a)(h2:zad w (qA J2 ao2 n2 Y2 K2 ap2 m2 Z2) b):EU 6 zaD w (sD g 0) [((0,0),a),((0,0),b)]:=λi o hi=>by
 match i,hi with
 |0,hi=>
  cases hi
  refine⟨g,0,_,rfl,rfl,λj u hj=>?_,J1,ao1,n1,Y1,K1,ap1,m1,Z1,rfl,h1⟩
  match j,hj with
  |0,hj=>cases hj;exact r.cell (k:=0) sM
  |1,hj=>cases hj;exact r.cell (k:=1) sM
  |2,hj=>cases hj;exact r.cell (k:=2) sM
  |3,hj=>cases hj;exact r.cell (k:=3) sM
  |4,hj=>cases hj;exact r.cell (k:=4) sM
  |5,hj=>cases hj;exact r.cell (k:=5) sM
  |j+6,hj=>simp at hj
 |1,hi=>
  cases hi
  refine⟨g,0,_,rfl,rfl,λj u hj=>?_,J2,ao2,n2,Y2,K2,ap2,m2,Z2,rfl,h2⟩
  match j,hj with
  |0,hj=>cases hj;exact r.cell (k:=6) sM
  |1,hj=>cases hj;exact r.cell (k:=7) sM
  |2,hj=>cases hj;exact r.cell (k:=8) sM
  |3,hj=>cases hj;exact r.cell (k:=9) sM
  |4,hj=>cases hj;exact r.cell (k:=10) sM
  |5,hj=>cases hj;exact r.cell (k:=11) sM
  |j+6,hj=>simp at hj
 |i+2,hi=>simp at hi
theorem eu3{w:Wo}{E:TypeId}{b c:Nat}(r:Row w g E [.int .i64 (a:Nat),.int .i64 (b:Nat),.int .i64 (c:Nat)]):EU 1 zkI w (sD g 0) [a,b,c]:=λi x hi=>by
 match i,hi with
 |0,hi=>
  cases hi
  refine⟨g,0,[.int .i64 (a:Nat)],rfl,rfl,λj u hj=>?_,rfl⟩
  match j,hj with
  |0,hj=>cases hj;exact r.cell (k:=0) sM
  |j+1,hj=>simp at hj
 |1,hi=>
  cases hi
  refine⟨g,0,[.int .i64 (b:Nat)],rfl,rfl,λj u hj=>?_,rfl⟩
  match j,hj with
  |0,hj=>cases hj;exact r.cell (k:=1) sM
  |j+1,hj=>simp at hj
 |2,hi=>
  cases hi
  refine⟨g,0,[.int .i64 (c:Nat)],rfl,rfl,λj u hj=>?_,rfl⟩
  match j,hj with
  |0,hj=>cases hj;exact r.cell (k:=2) sM
  |j+1,hj=>simp at hj
 |i+3,hi=>simp at hi
theorem zdf(w:Wo)(hE:Env w) :
  CP 8 #[] w λe w'=>e=.returned (.bool true)/\BH w w':=by
 have hbw:=Below.refl w.heap.size w;go_enter func8,ntmps8;go_upto_region 2 with fail;obtain⟨w1,gF,hw9,hg9,hb,rF⟩:=bxr w [.int .u16 3,.int .u16 5,.int .u16 6] 52;rw[<-hw9,<-hg9];have HgF:Hid (w.heap.size<=gF):=hii (by have:=hbw.size;omega);clear hw9 hg9;have hE:=hE.mono hb;have hbw:=bu hbw hb;clear hb;have uF:zaF w1 (sD gF 0) zbh:=zpM rF;clear rF;go_wp2_with fail;go_fit (zbZ 1 1 w1 dM dM dM dM (hii dM) hE);rintro e w2⟨hz,hb⟩;obtain⟨J1,ao1,n1,Y1,K1,ap1,m1,Z1,rfl,hv1⟩:=hz.rat;have hv1:zad w2 (qA J1 ao1 n1 Y1 K1 ap1 m1 Z1) 1:=hv1;have uF:=uF.mono hb;have hE:=hE.mono hb;have hbw:=bu hbw hb;clear hb;clear hz;go_wp2_with fail;go_fit (zbZ 1 1 w2 dM dM dM dM (hii dM) hE);rintro e w3⟨hz,hb⟩;obtain⟨J2,ao2,n2,Y2,K2,ap2,m2,Z2,rfl,hv2⟩:=hz.rat;have hv2:zad w3 (qA J2 ao2 n2 Y2 K2 ap2 m2 Z2) 1:=hv2;have uF:=uF.mono hb;have hE:=hE.mono hb;have hv1:=hv1.mono hb;have hbw:=bu hbw hb;clear hb;clear hz;go_wp2_with fail;go_fit (zbZ 1 1 w3 dM dM dM dM (hii dM) hE);rintro e w4⟨hz,hb⟩;obtain⟨J3,ao3,n3,Y3,K3,ap3,m3,Z3,rfl,hv3⟩:=hz.rat;have hv3:zad w4 (qA J3 ao3 n3 Y3 K3 ap3 m3 Z3) 1:=hv3;have uF:=uF.mono hb;have hE:=hE.mono hb;have hv1:=hv1.mono hb;have hv2:=hv2.mono hb;have hbw:=bu hbw hb;clear hb;clear hz;go_upto_region 3 with fail;obtain⟨w5,gO,hw9,hg9,hb,rO⟩:=bxr w4 [.bool J1,.slice ao1 n1 Y1,.bool K1,.slice ap1 m1 Z1,.bool J2,.slice ao2 n2 Y2,.bool K2,.slice ap2 m2 Z2,.bool J3,.slice ao3 n3 Y3,.bool K3,.slice ap3 m3 Z3] 32;rw[<-hw9,<-hg9];have HgO:Hid (w.heap.size<=gO):=hii (by have:=hbw.size;omega);clear hw9 hg9;have uF:=uF.mono hb;have hE:=hE.mono hb;have hv1:=hv1.mono hb;have hv2:=hv2.mono hb;have hv3:=hv3.mono hb;have hbw:=bu hbw hb;clear hb;have uO:UQ w5 (sD gO 0) [some 1,some 1,some 1]:=uq3 rO hv1 hv2 hv3;clear rO hv1 hv2 hv3;go_wp2_with fail;go_fit (zbZ 1 2 w5 dM dM dM dM (hii dM) hE);rintro e w6⟨hz,hb⟩;obtain⟨J4,ao4,n4,Y4,K4,ap4,m4,Z4,rfl,hv4⟩:=hz.rat;have hv4:zad w6 (qA J4 ao4 n4 Y4 K4 ap4 m4 Z4) hf:=hv4;have uF:=uF.mono hb;have uO:=uO.mono hb;have hE:=hE.mono hb;have hbw:=bu hbw hb;clear hb;clear hz;have HO:=zeM zbh zbh hf [1,1,1] 3 (hii znK) _ _ (sD gO 0) 3 3 3 _ w6 nl nl uF uF hv4 uO hE;rw[show zbh.length=3 from rfl,show [(1:Rat),1,1].length=3 from rfl]at HO;go_wp2_with fail;(with_reducible refine HO.mono ?_);rintro e w7⟨hOR,hb⟩;have uF:=uF.mono hb;have uO:=uO.mono hb;have hE:=hE.mono hb;have hbw:=bu hbw hb;clear hb;clear HO hv4;obtain⟨v,ld,Ps,Qs,rfl,hBV,hBal⟩:=hOR;have HBal:=hii hBal;have Hld:=hii (zo5 hBal);clear hBal;obtain⟨J5,ao5,n5,Y5,K5,ap5,m5,Z5,aB,cB,aQ,cQ,rfl,hv5,uB,uQ⟩:=hBV;go_upto_region 4 with fail;obtain⟨w8,g3,hw9,hg9,hb,r3⟩:=bxr w7 [.bool J5,.slice ao5 n5 Y5,.bool K5,.slice ap5 m5 Z5,.slice aB (shs (prs zbh zbh) Ps).length cB,.slice aQ Qs.length cQ] 39;rw[<-hw9,<-hg9];have Hg3:Hid (w.heap.size<=g3):=hii (by have:=hbw.size;omega);clear hw9 hg9;have uF:=uF.mono hb;have uO:=uO.mono hb;have uQ:=uQ.mono hb;have uB:=uB.mono zao hb;have hv5:=hv5.mono hb;have hE:=hE.mono hb;have hbw:=bu hbw hb;clear hb;have HB:=zkD zbh 3 (sD gF 0) 3 w8 dM nl dM dM uF (hii (zjT.s16 dM)) hE;rw[show zbh.length=3 from rfl]at HB;go_wp2_with fail;(with_reducible refine HB.mono ?_);rintro e w9⟨hBP,hb⟩;have uF:=uF.mono hb;have uO:=uO.mono hb;have uQ:=uQ.mono hb;have uB:=uB.mono zao hb;have hv5:=hv5.mono hb;have hE:=hE.mono hb;have r3:=r3.below hb;have hbw:=bu hbw hb;clear hb;clear HB;rcases hBP with⟨h,-⟩|⟨-,J1,ao1,n1,Y1,K1,ap1,m1,Z1,J2,ao2,n2,Y2,K2,ap2,m2,Z2,rfl,hv1,hv2⟩
 case inl=>exact absurd zol h
 have hv1:zad w9 (qA J1 ao1 n1 Y1 K1 ap1 m1 Z1) (Rat.divInt 1 2):=hv1;have hv2:zad w9 (qA J2 ao2 n2 Y2 K2 ap2 m2 Z2) (Rat.divInt 2 3):=hv2;go_upto_region 5 with fail;obtain⟨wx,hwx,r5,r6,hb⟩:=zaH w9 32 32 [.bool J1,.slice ao1 n1 Y1,.bool K1,.slice ap1 m1 Z1] [.bool J2,.slice ao2 n2 Y2,.bool K2,.slice ap2 m2 Z2];simp only[List.toArray]at hwx;rw[<-hwx];clear hwx;obtain⟨wA,rfl⟩:=exi wx;obtain⟨g6,hg6⟩:∃g,g=w9.heap.size+1:=⟨_,rfl⟩;rw[<-hg6]at r6|-;clear hg6;obtain⟨g5,hg5⟩:∃g,g=w9.heap.size:=⟨_,rfl⟩;rw[<-hg5]at r5|-;clear hg5;have uF:=uF.mono hb;have uO:=uO.mono hb;have uQ:=uQ.mono hb;have hv1:=hv1.mono hb;have hv2:=hv2.mono hb;have uB:=uB.mono zao hb;have hv5:=hv5.mono hb;have hE:=hE.mono hb;have r3:=r3.below hb;have hbw:=bu hbw hb;clear hb;go_wp2_with fail;go_fit (zbZ 1 2 wA dM dM dM dM (hii dM) hE);rintro e wB⟨hz,hb⟩;obtain⟨J3,ao3,n3,Y3,K3,ap3,m3,Z3,rfl,hv3⟩:=hz.rat;have hv3:zad wB (qA J3 ao3 n3 Y3 K3 ap3 m3 Z3) hf:=hv3;have uF:=uF.mono hb;have uO:=uO.mono hb;have uQ:=uQ.mono hb;have hv1:=hv1.mono hb;have hv2:=hv2.mono hb;have uB:=uB.mono zao hb;have hv5:=hv5.mono hb;have hE:=hE.mono hb;have r3:=r3.below hb;have r5:=r5.below hb;have r6:=r6.below hb;have hbw:=bu hbw hb;clear hb;clear hz;go_wp2_with fail;go_fit (zbZ 1 2 wB dM dM dM dM (hii dM) hE);rintro e wC⟨hz,hb⟩;obtain⟨J4,ao4,n4,Y4,K4,ap4,m4,Z4,rfl,hv4⟩:=hz.rat;have hv4:zad wC (qA J4 ao4 n4 Y4 K4 ap4 m4 Z4) hf:=hv4;have uF:=uF.mono hb;have uO:=uO.mono hb;have uQ:=uQ.mono hb;have hv1:=hv1.mono hb;have hv2:=hv2.mono hb;have hv3:=hv3.mono hb;have uB:=uB.mono zao hb;have hv5:=hv5.mono hb;have hE:=hE.mono hb;have r3:=r3.below hb;have r5:=r5.below hb;have r6:=r6.below hb;have hbw:=bu hbw hb;clear hb;clear hz;go_upto_region 6 with fail;obtain⟨wD,gS,hw9,hg9,hb,rS⟩:=bxr wC [.int .u16 0,.int .u16 0,.bool J3,.slice ao3 n3 Y3,.bool K3,.slice ap3 m3 Z3,.int .u16 0,.int .u16 0,.bool J4,.slice ao4 n4 Y4,.bool K4,.slice ap4 m4 Z4] 59;rw[<-hw9,<-hg9];have HgS:Hid (w.heap.size<=gS):=hii (by have:=hbw.size;omega);clear hw9 hg9;have uF:=uF.mono hb;have uO:=uO.mono hb;have uQ:=uQ.mono hb;have hv1:=hv1.mono hb;have hv2:=hv2.mono hb;have hv3:=hv3.mono hb;have hv4:=hv4.mono hb;have uB:=uB.mono zao hb;have hv5:=hv5.mono hb;have hE:=hE.mono hb;have r3:=r3.below hb;have r5:=r5.below hb;have r6:=r6.below hb;have hbw:=bu hbw hb;clear hb;have uS:EU 6 zaD wD (sD gS 0) sh2:=eu2 rS hv3 hv4;have HSc:=zhd sh2 (λ_=>hf) 3 (sD gS 0) 2 wD dM dM dM (hii λi s hs=>by
  match i,hs with
  |0,hs=>cases hs;rfl
  |1,hs=>cases hs;rfl
  |i+2,hs=>simp[sh2]at hs) (hii (zmr (D:=2) (M:=1) dM (λi _=>⟨1,by decide+kernel,dM⟩) dM)) (hii zn6) uS.shareQ hE
 rw[show sh2.length=2 from rfl,znU,show((3:Nat):Int)=3 from rfl]at HSc;go_wp2_with fail;(with_reducible refine HSc.mono ?_);rintro e wE⟨⟨aI,cI,rfl,uI⟩,hb⟩;have uF:=uF.mono hb;have uO:=uO.mono hb;have uQ:=uQ.mono hb;have hv1:=hv1.mono hb;have hv2:=hv2.mono hb;have uB:=uB.mono zao hb;have hv5:=hv5.mono hb;have hE:=hE.mono hb;have r3:=r3.below hb;have r5:=r5.below hb;have r6:=r6.below hb;have hbw:=bu hbw hb;clear hb;clear HSc uS rS hv3 hv4;have hvL:zad wE (qA J5 ao5 n5 Y5 K5 ap5 m5 Z5) (Rat.divInt 2 3):=by rw[<-Hld.o];exact hv5
 go_upto_region 7 with fail;obtain⟨wa,rfl⟩:=exi wE;refine zae (wx:=wa) [vf (.int .i64 0),vf bF_,vf bF_,vf (.int .i64 0),vf bF_,vf bF_,vf bF_,vf (.int .i64 0),vf bF_,vf bF_,vf bF_,vf (pT g3 0),vf (.agg #[.bool J5,.slice ao5 n5 Y5,.bool K5,.slice ap5 m5 Z5]),(λW v=>zad W v (Rat.divInt 2 3)),vf (.bool true),vf bF_,vf bF_,vf bF_,vf (.slice aI 3 cI),(λW v=>∃n,v=.slice (sD n 0) 3 3/\EU 1 zkI W (sD n 0) [0,1,0]),vf (.bool true),vf bF_,vf bF_] [40,41,42,43,44,45,46,47,48,49,50,51,52,53,54,55,56,57,58,59,60,61,62] br ⟨sV _,sV _,sV _,sV _,sV _,sV _,sV _,sV _,sV _,sV _,sV _,sV _,sV _,(λ_ _ _ h hb=>h.mono hb),sV _,sV _,sV _,sV _,sV _,(λ_ _ _ ⟨n,e,h⟩ hb=>⟨n,e,h.mono za7 hb⟩),sV _,sV _,sV _,trivial⟩ ⟨tV,tV,tV,tV,tV,tV,tV,tV,tV,tV,tV,tV,?s12,?s13,?s14,tV,tV,tV,tV,?s19,?s20,tV,tV,trivial⟩ ?he
 case' s12|s13|s14|s19|s20=>
  rintro T W hb hA K hK;simp only[yA,Region.binds]at hA;simp only[sA,hA]at hK|-
 case' s12|s13|s19=>
  have HK:=hii hK;clear hK hA
 case s12=>
  obtain⟨y0,y1,y2,y3,y4,y5⟩:=(r3.below hb).n6;exact cH
 case s13=>
  refine wO rfl ?_;go_simp;go_fit (zbZ 2 3 W dM dM dM dM (hii dM) (hE.mono hb));rintro e w1⟨hz,hb1⟩;obtain⟨J7,ao7,n7,Y7,K7,ap7,m7,Z7,rfl,hV7⟩:=hz.rat
  try dsimp only
  exact dY
 case s19=>
  refine wO rfl ?_;go_simp;have hb1:=bA W (.cells #[.int .i64 0,.int .i64 1,.int .i64 0] 3);have hrw:Row (W.alloc (.cells #[.int .i64 0,.int .i64 1,.int .i64 0] 3)) W.heap.size 3 [.int .i64 ((0:Nat):Int),.int .i64 ((1:Nat):Int),.int .i64 ((0:Nat):Int)]:=heap_alloc_new _ _;have he3:=eu3 hrw
  try dsimp only
  exact HK.o _ _ hb1 (⟨_,rfl,he3⟩)
 case s14=>
  have r13:=hA.2.1;have HK:=hii hK;clear hK hA;have r13:zad W _ (Rat.divInt 2 3):=r13;obtain⟨J8,ao8,n8,Y8,K8,ap8,m8,Z8,e13⟩:=r13.parts;rw[e13]at r13;simp only[e13]at HK|-;refine wO rfl ?_;go_simp;go_fit (zjv (hvL.mono hb) r13 (hE.mono hb));rintro e w1⟨rfl,hb1⟩
  try dsimp only
  exact d6
 case s20=>
  have r19:=hA.2.1;have HK:=hii hK;clear hK hA;obtain⟨n9,e19,h19⟩:=r19;simp only[e19]at HK|-;refine wO rfl ?_;go_simp;have HQ:=zhh [0,1,0] aI (sD n9 0) cI 3 W dM (uI.mono za7 hb) h19;rw[show([0,1,0]:LN).length=3 from rfl]at HQ;(with_reducible refine HQ.mono ?_);rintro e w1⟨rfl,hb1⟩
  try dsimp only
  exact d6
 case he=>
  rintro T W hb hA;have f22:T 62=bF_:=hA.at 22 dM;simp only[sA,f22];have uF:=uF.mono hb;have uO:=uO.mono hb;have uQ:=uQ.mono hb;have hv1:=hv1.mono hb;have hv2:=hv2.mono hb;have uB:=uB.mono zao hb;have hv5:=hv5.mono hb;have hE:=hE.mono hb;have r3:=r3.below hb;have r5:=r5.below hb;have r6:=r6.below hb;have hbw:=bu hbw hb;clear hb;clear hA f22 hvL uI;obtain⟨wb,rfl⟩:=exi W;go_upto_region 9 with fail;refine zae (wx:=wb) [vf (.agg #[.bool J1,.slice ao1 n1 Y1,.bool K1,.slice ap1 m1 Z1]),(λW v=>zad W v (Rat.divInt 1 2)),vf (.bool true),vf (.bool true),vf (.agg #[.bool J2,.slice ao2 n2 Y2,.bool K2,.slice ap2 m2 Z2]),(λW v=>zad W v (Rat.divInt 2 3)),vf (.bool true),vf (.bool true),vf (.bool true),vf (.slice (sD gF 0) 3 3),vf (.slice (sD gF 0) 3 3),(λW v=>zad W v (Rat.divInt 1 2)),vf (.slice (sD gO 0) 3 3),vf (.agg #[.bool J5,.slice ao5 n5 Y5,.bool K5,.slice ap5 m5 Z5,.slice aB (shs (prs zbh zbh) Ps).length cB,.slice aQ Qs.length cQ]),vf (.bool true),vf (.bool true),vf (.bool true)] [63,64,65,66,67,68,69,70,71,72,73,74,75,76,77,78,0] br ⟨sV _,(λ_ _ _ h hb=>h.mono hb),sV _,sV _,sV _,(λ_ _ _ h hb=>h.mono hb),sV _,sV _,sV _,sV _,sV _,(λ_ _ _ h hb=>h.mono hb),sV _,sV _,sV _,sV _,sV _,trivial⟩ ⟨?s0,?s1,?s2,tV,?s4,?s5,?s6,tV,tV,tV,tV,?s11,tV,?s13,?s14,tV,tV,trivial⟩ ?he
  case' s0|s1|s2|s4|s5|s6|s11|s13|s14=>
   rintro T W hb hA K hK;simp only[yA,Region.binds]at hA;simp only[sA,hA]at hK|-
  case' s0|s1|s4|s5|s11|s13=>
   have HK:=hii hK;clear hK hA
  case' s0=>
   obtain⟨k0,k1,k2,k3⟩:=(r5.below hb).n4
  case' s4=>
   obtain⟨k0,k1,k2,k3⟩:=(r6.below hb).n4
  case' s13=>
   obtain⟨y0,y1,y2,y3,y4,y5⟩:=(r3.below hb).n6
  case s0|s4|s13=>
   exact cH
  case s1|s11=>
   refine wO rfl ?_;go_simp;go_fit (zbZ 1 2 W dM dM dM dM (hii dM) (hE.mono hb));rintro e w1⟨hz,hb1⟩;obtain⟨J7,ao7,n7,Y7,K7,ap7,m7,Z7,rfl,hV7⟩:=hz.rat
   try dsimp only
   exact dY
  case s5=>
   refine wO rfl ?_;go_simp;go_fit (zbZ 2 3 W dM dM dM dM (hii dM) (hE.mono hb));rintro e w1⟨hz,hb1⟩;obtain⟨J7,ao7,n7,Y7,K7,ap7,m7,Z7,rfl,hV7⟩:=hz.rat
   try dsimp only
   exact dY
  case s2=>
   have r1:=hA.2.1;have HK:=hii hK;clear hK hA;have r1:zad W _ (Rat.divInt 1 2):=r1;obtain⟨J8,ao8,n8,Y8,K8,ap8,m8,Z8,e1⟩:=r1.parts;rw[e1]at r1;simp only[e1]at HK|-;refine wO rfl ?_;go_simp;go_fit (zjv (hv1.mono hb) r1 (hE.mono hb));rintro e w1⟨rfl,hb1⟩
   try dsimp only
   exact d6
  case s6=>
   have r5:=hA.2.1;have HK:=hii hK;clear hK hA;have r5:zad W _ (Rat.divInt 2 3):=r5;obtain⟨J8,ao8,n8,Y8,K8,ap8,m8,Z8,e5⟩:=r5.parts;rw[e5]at r5;simp only[e5]at HK|-;refine wO rfl ?_;go_simp;go_fit (zjv (hv2.mono hb) r5 (hE.mono hb));rintro e w1⟨rfl,hb1⟩
   try dsimp only
   exact d6
  case s14=>
   have r11:=hA.2.2.1;have HK:=hii hK;clear hK hA;have r11:zad W _ (Rat.divInt 1 2):=r11;obtain⟨J8,ao8,n8,Y8,K8,ap8,m8,Z8,e11⟩:=r11.parts;rw[e11]at r11;simp only[e11]at HK|-;refine wO rfl ?_;go_simp;have HC:=zlJ zbh zbh hf [1,1,1] 3 (hii znK) _ _ (sD gO 0) 3 3 3 _ _ ld Ps Qs HBal W nl nl (uF.mono hb) (uF.mono hb) r11 (uO.mono hb) ⟨_,_,_,_,_,_,_,_,aB,cB,aQ,cQ,rfl,hv5.mono hb,uB.mono zao hb,uQ.mono hb⟩ (hE.mono hb);rw[show zbh.length=3 from rfl,show [(1:Rat),1,1].length=3 from rfl]at HC;(with_reducible refine HC.mono ?_);rintro e w1⟨rfl,hb1⟩
   try dsimp only
   exact d6
  case he=>
   rintro T W hb hA;have f16:T 0=.bool true:=hA.at 16 dM;simp only[sA,f16];have hbw:=bu hbw hb;clear hA f16 hb;exact cP
theorem Tryz.info52:(Tryz.prog.info? 52).map (λi=>(i.zero,i.size,i.bytes))=some (some (.int .u16 0),1,2):=by kernel_rfl
theorem Tryz.slice27:Tryz.prog.underlying 27=some (.slice 52):=by kernel_rfl
theorem zaF.nil{w:Wo}{a:OA}:zaF w a []:=λi x h=>by simp at h
theorem zlA{ops:Array Oper}{rest:List Oper}{o:Oper}{a:Act}{Q:Exit->Act->Wo->Prop}(w W:Wo)(B:Nat)(hgd:o.guard=none)(s x:Operand)(ho:o.op=.call {callee:=.builtin .append,args:=#[s,x],argTypes:=#[27,27]})
  {v:Vl}{ad:Addr}{c:Nat}(hs:a.eval s=v)(hx:a.eval x=.slice (some ad) l.length c)(hown:w.ownsRow B 52 1 v 0 [])(hB:B<=w.heap.size)(hb:Below B W w)
  (hU:zaF w (some ad) l)(hl:l.length<=1000000)
  (hK:∀a2 c2 w',l.length<=c2->zaF w' a2 l->Below B W w'->wpList Tryz.prog ops Q rest (a.put o.dst (.slice a2 l.length c2)) w') :
  wpList Tryz.prog ops Q (o :: rest) a w:=by
 obtain⟨i0,hi,hz0,hz1,hz2⟩:=info_parts Tryz.info52;have hn:(l.map λx:Nat=>Value.int .u16 (x:Nat)).length=l.length*i0.size:=by rw[List.length_map,hz1,Nat.mul_one]
 have hcn:∀(j:Nat)(u:Vl),(l.map λx:Nat=>Value.int .u16 (x:Nat))[j]?=some u->w.cell? (ad.add j)=some u:=by
  intro j u hj;rw[List.getElem?_map,Option.map_eq_some_iff]at hj;obtain⟨y,hy,rfl⟩:=hj;obtain⟨b',off',e,hc⟩:=hU j y hy;simp only[Option.some.injEq]at e;subst e;have ha:(⟨b',off',none⟩:Addr).add j=⟨b',off'+j,none⟩:=by
   unfold Addr.add;split
   ·subst j;rfl
   ·simp
  rw[ha];exact hc
 have hone:∀u∈l.map (λx:Nat=>Value.int .u16 (x:Nat)),u.oneCell'=true:=by
  intro u hu;obtain⟨y,-,rfl⟩:=List.mem_map.1 hu
  rfl
 have hby:(0+l.length)*i0.bytes<=140737488355328:=by
  rw[hz2];omega
 obtain⟨v',w',hr1,h3,h4,h5⟩:=run_append_own (P:=Tryz.prog) w B 27 o.type 52 i0 (.int .u16 0) i0.size i0.bytes Tryz.slice27 hi hz0 rfl rfl (by rw[hz1];rfl) (by rw[hz1];decide) v 0 [] (by rw[hz1];exact hown) ad l.length c _ hn hcn hone (by unfold maxLen;omega) hby hB;rw[hz1,Nat.zero_add,List.nil_append]at h3;refine wpList_plain hgd λK hK'=>?_
 obtain⟨a2,c2,rfl,hc2,hu2⟩:∃a2 c2,v'=.slice a2 l.length c2/\l.length<=c2/\zaF w' a2 l:=by
  have h30:=h3;rcases h3.2 with⟨rfl,hn0⟩|⟨g,cap,cur,rfl,hB,hg,hnc,hcm,hcs,htake⟩
  ·have:l=[]:=List.eq_nil_of_length_eq_zero hn0;subst this;exact⟨none,0,rfl,nl,zaF.nil⟩
  ·refine⟨some ⟨g,0,none⟩,cap,rfl,hnc,λj y hy=>⟨g,0,rfl,?_⟩⟩;rw[Nat.zero_add];exact zaE h30 (by rw[List.getElem?_map,hy];rfl)
 exact zat s x ho hs hx hr1 (hK' _ _ (hK a2 c2 w' hc2 hu2 (hb.grown h4 hB λg hg=>(World.ownsRow.lt hown g hg).1)))
theorem zga:∀(l e:LN)(i:Nat)(a x:Nat),l[i]?=some a->x∈e++l.take i->zct a x=true->zbE e l=1
 |[],_,i,a,x,h,_,_=>by simp at h
 |s :: l,e,0,a,x,h,hx,hs=>by
  simp at h;subst h;unfold zbE;rw[if_pos];exact List.any_eq_true.2 ⟨x,by simpa using hx,hs⟩
 |s :: l,e,i+1,a,x,h,hx,hs=>by
  unfold zbE
  split
  ·rfl
  ·refine zga l (e++[s]) i a x (by simpa using h) ?_ hs
   simpa using hx
theorem zeD:∀(l e:LN),(∀(i:Nat)(a x:Nat),l[i]?=some a->x∈e++l.take i->zct a x=false)->zbE e l=0
 |[],_,_=>rfl
 |s :: l,e,h=>by
  unfold zbE;rw[if_neg]
  ·refine zeD l (e++[s]) λi a x h1 h2=>h (i+1) a x (by simpa using h1) (by simpa using h2)
  ·rw[Bool.not_eq_true,List.any_eq_false];intro x hx;rw[Bool.not_eq_true];exact h 0 s x rfl (by simpa using hx)
theorem zeE:∀(l:LN)(p:Option Nat),zaY p l=0->(∀x∈l,x<4096)/\l.Pairwise (λa b=>bef a b=true)/\∀q,p=some q->∀x∈l,bef q x=true
 |[],_,_=>⟨sM,sM,sM⟩
 |s :: l,p,h=>by
  unfold zaY at h
  by_cases h4:4096<=s
  ·rw[if_pos h4]at h;cases h
  rw[if_neg h4]at h;have key:zaY (some s) l=0/\∀q,p=some q->bef q s=true:=by
   cases p with
   |none=>exact⟨by simpa using h,λq e=>by cases e⟩
   |some q=>
    by_cases hq:bef q s=true
    ·exact⟨by simpa [hq]using h,λq' e=>by cases e;exact hq⟩
    ·simp[hq]at h
  obtain⟨h1,h2,h3⟩:=zeE l (some s) key.1;have hs:=h3 s rfl;refine⟨λx hx=>?_,List.pairwise_cons.2 ⟨hs,h2⟩,λq e x hx=>?_⟩
  ·rcases List.mem_cons.1 hx with rfl|hx
   ·omega
   ·exact h1 x hx
  ·have hqs:=key.2 q e;rcases List.mem_cons.1 hx with rfl|hx
   ·exact hqs
   ·exact zc7 hqs (hs x hx)
theorem ziG{i k x:Nat}(h1:zaY none l=0)(hne:i≠k)(hi:l[i]?=some a)(hk:l[k]?=some x)(hs:zct a x=true):zbE [] l=1:=by
 obtain⟨h4,hp,-⟩:=zeE l none h1;rcases Nat.lt_or_gt_of_ne hne with h|h
 ·exfalso
  obtain⟨hi',ei⟩:=List.getElem?_eq_some_iff.1 hi;obtain⟨hk',ek⟩:=List.getElem?_eq_some_iff.1 hk;have hb:=List.pairwise_iff_getElem.1 hp i k hi' hk' h;rw[ei,ek]at hb;have hxa:x≠a:=λe=>by rw[e,zbk]at hb;cases hb
  have:=zi7 (by have:=h4 a (List.mem_of_getElem? hi);omega) hs hxa;have:=zc7 hb this;rw[zbk]at this
  cases this
 ·refine zga l [] i a x hi ?_ hs;rw[List.nil_append];exact List.mem_take_iff_getElem.2 ⟨k,by have:=(List.getElem?_eq_some_iff.1 hk).1;omega,(List.getElem?_eq_some_iff.1 hk).2⟩
theorem ziF(h:∀(i k a x:Nat),i≠k->l[i]?=some a->l[k]?=some x->zct a x=false):zbE [] l=0:=by
 refine zeD l [] λi a x h1 h2=>?_
 rw[List.nil_append]at h2;obtain⟨k,hk,e⟩:=List.mem_take_iff_getElem.1 h2;exact h i k a x oM h1 (by rw[List.getElem?_eq_some_iff];exact⟨oM,e⟩)
theorem zlr(x k:Nat):(List.range (k+1)).countP (λi=>x.testBit i)=(List.range k).countP (λi=>x.testBit i)+(if x.testBit k then 1 else 0):=by
 rw[List.range_succ,List.countP_append,List.countP_singleton]
theorem zgk(l:LN)(aa:OA)(ca:Nat)(w:Wo)(hl:l.length<=1000000)(ua:zaF w aa l) :
  CP 15 #[.slice aa l.length ca] w λe w'=>(∃a2 c2,e=.returned (.slice a2 l.length c2)/\l.length<=c2/\zaF w' a2 l)/\BH w w':=by
 cases aa with
 |none=>
  have hln:l=[]:=by
   cases l with
   |nil=>rfl
   |cons x r=>obtain⟨b,off,e,_⟩:=ua 0 x rfl;cases e
  subst hln;have hn:=λw:Wo=>Lib.run_eql_slice_nil (P:=Tryz.prog) w 27 52 none 0 ca 0 0 Tryz.slice27
  simp only[Option.isNone_none]at hn;go_enter func15,ntmps15;go_wp2;go_ret;exact⟨⟨none,0,rfl,nl,zaF.nil⟩,br⟩
 |some a=>
  have hn:=λw:Wo=>Lib.run_eql_slice_nil (P:=Tryz.prog) w 27 52 (some a) l.length ca 0 0 Tryz.slice27
  simp only[Option.isNone_some]at hn;have hown:(w.alloc (.cells #[] 52)).ownsRow w.heap.size 52 1 (.slice (some ⟨w.heap.size,0,none⟩) 0 0) 0 []:=World.ownsRow_made w #[] 0 nl (Nat.zero_le _) sM;have hba:=bA w (.cells #[] 52);have hU:=ua.mono hba;have hsz:=hba.size;go_enter func15,ntmps15;go_wp2_with (at_builtin;go_loud (refine zlA _ w w.heap.size rfl (.tmp 5) (.tmp 6) rfl rfl rfl hown hsz hba hU hl ?_);intro a2 c2 w1 hc2 hu2 hb2);go_ret;exact⟨⟨a2,c2,rfl,hc2,hu2⟩,hb2⟩
theorem zjr(x i:Nat)(w:Wo)(hx:x<65536)(hi:i<16) :
  CP 110 #[.int .u16 (x:Nat),.int .i64 (i:Nat)] w λe w'=>e=.returned (.bool (x.testBit i))/\BH w w':=by
 obtain⟨z,hz,hb'⟩:=zo8 x i hx;obtain⟨b,hbb⟩:∃b,x.testBit i=b:=⟨_,rfl⟩;rw[hbb]at hb'|-;clear hbb;have hi16:(i:Int)<16:=oM
 go_enter func110,ntmps110;exact dT
theorem zjo(x:Nat)(w:Wo) :
  CP 88 #[.int .u16 (x:Nat)] w λe w'=>e=.returned (.bool (decide (x<4096)))/\BH w w':=by
 have h1:decide ((x:Int)<4096)=decide (x<4096):=by rw[decide_eq_decide];omega
 generalize decide (x<4096)=b at h1|-;go_enter func88,ntmps88;exact dT
theorem zhA(x:Nat)(w:Wo)(hx:x<65536) :
  CP 137 #[.int .u16 (x:Nat)] w λe w'=>e=.returned (.int .i64 (cnt x:Nat))/\BH w w':=by
 have hbw:=Below.refl w.heap.size w;go_enter func137,ntmps137;go_wp2_with fail;go_loopw [3,4] (λv s wr=>∃k c:Nat,k<=16/\s=.int .i64 k/\v=.int .i64 (c:Nat)/\c<=k/\Hid (c=(List.range k).countP λi=>x.testBit i)/\wr=w) (λ_ s _=>16-(intOf s).toNat)
 case atStart=>exact⟨0,0,Nat.zero_le _,rfl,rfl,nl,hii rfl,tM⟩
 case round=>
  obtain⟨k,c,hk,rfl,rfl,hc,HC,rfl⟩:=hrel
  by_cases hlt:k<16
  ·have HN:=hii (zlr x k);have hz:=zom x k hx;obtain⟨b,hbb⟩:∃b,x.testBit k=b:=⟨_,rfl⟩;rw[hbb]at hz HN;have hkn:(k:Int)<16:=oM;clear hbb
   cases b with
   |false=>
    have hz:bits .and .u16 ((x:Int) / 2 ^ k) 1=0:=hz;have HN:Hid ((List.range (k+1)).countP (λi=>x.testBit i)=c):=hii (by rw[HN.o,HC.o];rfl);go_wp2;go_roundw
    case rel=>exact⟨k+1,c,oM,gM,gM,oM,hii HN.o.symm,tM⟩
    case measure=>exact mM
   |true=>
    have hz:bits .and .u16 ((x:Int) / 2 ^ k) 1=1:=hz;have HN:Hid ((List.range (k+1)).countP (λi=>x.testBit i)=c+1):=hii (by rw[HN.o,HC.o];rfl);go_wp2;go_roundw
    case rel=>exact⟨k+1,c+1,oM,gM,gM,oM,hii HN.o.symm,tM⟩
    case measure=>exact mM
  ·obtain rfl:k=16:=oM;have HC:Hid (cnt x=c):=hii (by rw[HC.o];rfl);go_wp2;go_ret;exact⟨by rw[HC.o];rfl,hbw⟩
theorem zet(a b:Nat)(w:Wo)(ha:a<65536)(hb':b<65536) :
  CP 89 #[.int .u16 (a:Nat),.int .u16 (b:Nat)] w λe w'=>e=.returned (.bool (bef a b))/\BH w w':=by
 have hbw:=Below.refl w.heap.size w;obtain⟨z,hz⟩:∃z,bef a b=z:=⟨_,rfl⟩;rw[hz];have hz:z=(decide (cnt a<cnt b) || (decide (cnt a=cnt b) && decide (a<b))):=by rw[<-hz];rfl
 have H1:=λW=>zhA a W ha
 have H2:=λW=>zhA b W hb'
 have l1:=zeJ a;have l2:=zeJ b;generalize cnt a=p at H1 hz l1;generalize cnt b=q at H2 hz l2;have HZ:=hii hz;clear hz
 by_cases hpq:p=q
 ·have hne:((p:Int) != (q:Int))=false:=by simp;omega
  have hd:decide (a<b)=z:=by rw[HZ.o,hpq];simp
  clear hpq HZ;go_enter func89,ntmps89;go_wp2_with fail;go_fit (H1 w);rintro e w1⟨rfl,hb⟩;have hbw:=bu hbw hb;clear hb;go_wp2_with fail;go_fit (H2 w1);rintro e w2⟨rfl,hb⟩;have hbw:=bu hbw hb;clear hb;go_wp2;go_ret;exact⟨by rw[<-hd];rfl,hbw⟩
 ·have hne:((p:Int) != (q:Int))=true:=by simp;omega
  have hd:decide (p<q)=z:=by rw[HZ.o];simp[hpq]
  clear hpq HZ;go_enter func89,ntmps89;go_wp2_with fail;go_fit (H1 w);rintro e w1⟨rfl,hb⟩;have hbw:=bu hbw hb;clear hb;go_wp2_with fail;go_fit (H2 w1);rintro e w2⟨rfl,hb⟩;have hbw:=bu hbw hb;clear hb;go_wp2_with fail;go_fit (H1 w2);rintro e w3⟨rfl,hb⟩;have hbw:=bu hbw hb;clear hb;go_wp2_with fail;go_fit (H2 w3);rintro e w4⟨rfl,hb⟩;have hbw:=bu hbw hb;clear hb;go_wp2;go_ret;exact⟨by rw[<-hd];rfl,hbw⟩
theorem zdl(a b:Nat)(ha:a<65536)(hb':b<65536)(w:Wo) :
  CP 90 #[.int .u16 (a:Nat),.int .u16 (b:Nat)] w λe w'=>e=.returned (.bool (zct a b))/\BH w w':=by
 have e1:=zh8 a b ha hb';obtain⟨z,hz⟩:∃z,zct a b=z:=⟨_,rfl⟩;have e2:(bits .andNot .u16 (b:Int) (a:Int)==0)=z:=by rw[e1,<-hz];rfl
 rw[hz];clear e1 hz;go_enter func90,ntmps90;exact dT
theorem zdN(l:LN)(aa:OA)(ca:Nat)(w:Wo)(hl:l.length<=1000000)(ua:zaF w aa l) :
  CP 43 #[.slice aa l.length ca] w λe w'=>e=.returned (.int .i64 (if zbr l then 9 else 0:Nat))/\BH w w':=by
 cases l with
 |nil=>
  go_enter func43,ntmps43;exact dT
 |cons x r=>
  obtain⟨b,off,ea,hc⟩:=ua 0 x rfl;rw[Nat.add_zero]at hc;obtain⟨n,hn⟩:∃n,(x :: r).length=n:=⟨_,rfl⟩;have hn0:0<n:=by rw[<-hn];simp
  rw[hn]at hl|-;have hnz:((n:Int)==0)=false:=by simp;omega
  have hni:(0:Int)<(n:Int):=oM;have hE:zbr (x :: r)=decide (x=0):=rfl;rw[hE];subst ea;clear ua hn hE
  by_cases hx0:x=0
  ·subst hx0;go_enter func43,ntmps43;exact dT
  ·have hxz:((x:Int)==0)=false:=by simp;omega
   have hd:decide (x=0)=false:=decide_eq_false hx0;rw[hd];go_enter func43,ntmps43;exact dT
theorem zfR(l:LN)(n:Nat)(aa:OA)(ca:Nat)(w:Wo)(hl:l.length<=1000000)(hn1:1<=n)(hn2:n<=12)(ua:zaF w aa l) :
  CP 44 #[.slice aa l.length ca,.int .i64 (n:Nat)] w λe w'=>e=.returned (.bool (l.all λx=>decide (x<2 ^ n)))/\BH w w':=by
 have hbw:=Below.refl w.heap.size w;obtain⟨M,hM⟩:∃M,2 ^ n=M:=⟨_,rfl⟩;have hML:M<=4096:=by rw[<-hM];exact Nat.pow_le_pow_right dM hn2
 have hsh:(2:Int) ^ n=(M:Int):=by rw[<-hM];push_cast;rfl
 have hwr:IntKind.u16.wrap (M:Int)=(M:Int):=zdi oM;rw[hM];have hn64:(n:Int)<64:=oM;clear hM;go_enter func44,ntmps44;go_wp2_with fail;go_loopw [5] (λs wr=>∃k:Nat,k<=l.length/\s=.int .i64 k/\Hid ((l.take k).all (λx=>decide (x<M))=true)/\BH w wr) (λs _=>l.length-(intOf s).toNat)
 case atStart=>exact⟨0,Nat.zero_le _,rfl,hii sM,hbw⟩
 case round=>
  clear hbw;obtain⟨k,hk,rfl,HA,hbw⟩:=hrel;have ua:=ua.mono hbw
  by_cases hlt:k<l.length
  ·obtain⟨x,hx⟩:∃x,l[k]?=some x:=⟨l[k],gE hlt⟩;obtain⟨b1,off1,ea,hc⟩:=ua k x hx;have HT:Hid ((l.take (k+1)).all (λx=>decide (x<M))=decide (x<M)):=hii (by rw[zaw hx,List.all_append,HA.o];simp);have HM:Hid (x∈l):=hii (List.mem_of_getElem? hx);have hkl:(k:Int)<(l.length:Int):=oM;subst ea;clear hx ua;go_upto_region 4 with fail;obtain⟨z,hz⟩:∃z,decide (M<=x)=z:=⟨_,rfl⟩;have HZ:Hid (decide (x<M)=!z):=hii (by rw[<-hz,Bool.eq_iff_iff];simp);refine zae (wx:=wr) [vf (.slice (sD b1 off1) l.length ca),vf (.int .i64 k),vf (.pointer (some ⟨b1,off1+k,none⟩)),vf (.int .u16 (x:Nat)),vf (.int .i64 (n:Nat)),vf (.int .u16 (M:Nat)),vf (.bool z)] [12,13,14,15,16,17,18] br zS ⟨tV,tV,tV,?s3,tV,tV,tV,trivial⟩ ?he
   case s3=>
    rintro T W hb hA K hK;simp only[yA,Region.binds]at hA;simp only[sA,hA]at hK|-;exact dO
   case he=>
    rintro T W hb hA;have f6:T 18=.bool z:=hA.at 6 dM;simp only[sA,f6];have hbw:=bu hbw hb;clear hA f6 hb
    cases z with
    |true=>
     have HE:Hid (l.all (λx=>decide (x<M))=false):=hii (by rw[List.all_eq_false];exact⟨x,HM.o,by rw[HZ.o];decide⟩);clear HT HZ hz;go_wp2;go_ret;exact⟨by rw[HE.o];rfl,hbw⟩
    |false=>
     have HT:Hid ((l.take (k+1)).all (λx=>decide (x<M))=true):=hii (by rw[HT.o,HZ.o];rfl);clear HZ hz;go_wp2;go_roundw
     case rel=>exact⟨k+1,oM,gM,HT,hbw⟩
     case measure=>exact mM
  ·obtain rfl:k=l.length:=oM;have HE:Hid (l.all (λx=>decide (x<M))=true):=hii (by have h:=HA.o;rw[List.take_length]at h;exact h);go_wp2;go_ret;exact⟨by rw[HE.o];rfl,hbw⟩
theorem zdk(l:LN)(aa:OA)(ca:Nat)(w:Wo)(hl:l.length<=400)(ua:zaF w aa l)(h16:Hid (zaR l)) :
  CP 42 #[.slice aa l.length ca] w λe w'=>e=.returned (.int .i64 (zgb l:Nat))/\BH w w':=by
 have hbw:=Below.refl w.heap.size w;obtain⟨E,hE⟩:∃E,zgb l=E:=⟨_,rfl⟩;rw[hE];have h4:¬400<l.length:=oM;have HE:Hid (E=if zaY none l≠0 then zaY none l else zbE [] l):=hii (by rw[<-hE];unfold zgb;rw[if_neg h4]);clear hE;have h4':¬(400:Int)<(l.length:Int):=oM;go_enter func42,ntmps42;go_wp2_with fail;go_loopw [3] (λs wr=>∃k:Nat,k<=l.length/\s=.int .i64 k/\Hid (zaY none l=zaY (zhG l k) (l.drop k))/\BH w wr) (λs _=>l.length-(intOf s).toNat)
 case atStart=>exact⟨0,Nat.zero_le _,rfl,hii rfl,hbw⟩
 case round=>
  clear hbw;obtain⟨k,hk,rfl,HN,hbw⟩:=hrel
  by_cases hlt:k<l.length
  ·obtain⟨x,hx⟩:∃x,l[k]?=some x:=⟨l[k],gE hlt⟩;obtain⟨b1,off1,ea,hc⟩:=(ua.mono hbw) k x hx;have hx16:=h16.o x (List.mem_of_getElem? hx);have HN:Hid (zaY none l=if 4096<=x then 7 else if (match zhG l k with|none=>false|some q=>!bef q x)then 1 else zaY (some x) (l.drop (k+1))):=hii (by rw[HN.o,zc3 hx];rfl);have Hp:Hid (zhG l (k+1)=some x):=hii (by unfold zhG;rw[if_neg oM];exact hx);have hkl:(k:Int)<(l.length:Int):=oM;have HR:=zjo x wr
   by_cases hx4:4096<=x
   ·have h7:decide (x<4096)=false:=decide_eq_false oM;rw[h7]at HR;have HE1:Hid (E=7):=hii (by rw[HE.o,HN.o,if_pos hx4];rfl);clear HE HN hx ua Hp h7;subst ea;go_wp2_with fail;(with_reducible refine HR.mono ?_);rintro e w1⟨rfl,hb⟩;have hbw:=bu hbw hb;clear hb hc HR;exact cZ
   ·have h7:decide (x<4096)=true:=decide_eq_true oM;rw[h7]at HR
    by_cases hk0:k=0
    ·subst hk0;rw[Nat.add_zero]at hc;have HN1:Hid (zaY none l=zaY (zhG l (0+1)) (l.drop (0+1))):=hii (by rw[HN.o,if_neg hx4,Hp.o];rfl);clear HN Hp hx h7;subst ea;go_wp2_with fail;(with_reducible refine HR.mono ?_);rintro e w1⟨rfl,hb⟩;have hbw:=bu hbw hb;clear hb hc HR;go_upto_region 8 with fail;refine zae (wx:=w1) [vf (.int .i64 ((0:Nat):Int)),vf bF_,vf bF_,vf undef,vf undef,vf undef,vf undef,vf undef,vf undef,vf undef,vf undef,vf undef,vf undef,vf undef,vf bF_] [21,22,23,24,25,26,27,28,29,30,31,32,33,34,35] br zS ⟨tV,tV,tV,tU,tU,tU,tU,tU,tU,tU,tU,tU,tU,tU,tV,trivial⟩ ?he
     case he=>
      rintro T W hb hA;have f14:T 35=bF_:=hA.at 14 dM;simp only[sA,f14];have hbw:=bu hbw hb;clear hA f14 hb;go_wp2;go_roundw
      case rel=>exact⟨0+1,oM,gM,HN1,hbw⟩
      case measure=>exact mM
    ·obtain⟨q,hq⟩:∃q,l[k-1]?=some q:=⟨l[k-1]'oM,gE _⟩;obtain⟨b2,off2,ea2,hc2⟩:=(ua.mono hbw) (k-1) q hq;have hq16:=h16.o q (List.mem_of_getElem? hq);have HN:Hid (zaY none l=if (!bef q x)=true then 1 else zaY (some x) (l.drop (k+1))):=hii (by
      rw[HN.o,if_neg hx4];unfold zhG;rw[if_neg hk0,hq])
     have HKc:=hii (λW=>zet q x W hq16 hx16);obtain⟨z,hz⟩:∃z,bef q x=z:=⟨_,rfl⟩;rw[hz]at HN;have HKc:Hid (∀W,CP 89 #[.int .u16 (q:Nat),.int .u16 (x:Nat)] W λe w'=>e=.returned (.bool z)/\BH W w'):=hii λW=>by have:=HKc.o W;rw[hz]at this;exact this
     subst ea
     cases ea2
     have hkp:decide ((0:Int)<(k:Int))=true:=decide_eq_true oM;have hk1:(k:Int)-1=((k-1:Nat):Int):=oM;have hkq:((k-1:Nat):Int)<(l.length:Int):=oM;have hk0':0<k:=oM;have hwk:IntKind.i64.wrap ((k-1:Nat):Int)=((k-1:Nat):Int):=by unfold IntKind.wrap;simp[IntKind.bits,IntKind.signed];omega
     clear hx hq hz h7 ua;go_wp2_with fail;(with_reducible refine HR.mono ?_);rintro e w1⟨rfl,hb⟩;have hc2:=(hb.cell (zaf hc2)).trans hc2;have hc:=(hb.cell (zaf hc)).trans hc;have hbw:=bu hbw hb;clear hb HR;go_upto_region 8 with fail;refine zae (wx:=w1) [vf (.int .i64 k),vf (.bool true),vf (.bool true),vf (.slice (sD b1 off1) l.length ca),vf (.int .i64 k),vf (.int .i64 ((k-1:Nat):Int)),vf (.pointer (some ⟨b1,off1+(k-1),none⟩)),vf (.int .u16 (q:Nat)),vf (.slice (sD b1 off1) l.length ca),vf (.int .i64 k),vf (.pointer (some ⟨b1,off1+k,none⟩)),vf (.int .u16 (x:Nat)),vf (.bool z),vf (.bool (!z)),vf (.bool (!z))] [21,22,23,24,25,26,27,28,29,30,31,32,33,34,35] br zS ⟨tV,tV,tV,tV,tV,tV,tV,?s7,tV,tV,tV,?s11,?s12,tV,tV,trivial⟩ ?he
     case' s7|s11|s12=>
      rintro T W hb hA K hK;simp only[yA,Region.binds]at hA;simp only[sA,hA]at hK|-;have HK:=hii hK;clear hK hA
     case' s7=>
      have h0:=(hb.cell (zaf hc2)).trans hc2
     case' s11=>
      have h0:=(hb.cell (zaf hc)).trans hc
     case s7|s11=>
      exact cH
     case s12=>
      refine wO rfl ?_;go_simp;go_fit (HKc.o W);rintro e w2⟨rfl,hb1⟩
      try dsimp only
      exact d6
     case he=>
      rintro T W hb hA;have f14:T 35=.bool (!z):=hA.at 14 dM;simp only[sA,f14];have hbw:=bu hbw hb;clear hA f14 hb hc hc2 HKc
      cases z with
      |true=>
       have HN1:Hid (zaY none l=zaY (zhG l (k+1)) (l.drop (k+1))):=hii (by rw[HN.o,Hp.o];rfl);clear HN Hp;go_wp2;go_roundw
       case rel=>exact⟨k+1,oM,gM,HN1,hbw⟩
       case measure=>exact mM
      |false=>
       have HE1:Hid (E=1):=hii (by rw[HE.o,HN.o];rfl);clear HN Hp HE;exact cZ
  ·obtain rfl:k=l.length:=oM;have HF0:Hid (zaY none l=0):=hii (by rw[HN.o,List.drop_length];simp[zaY]);have HE:Hid (E=zbE [] l):=hii (by rw[HE.o,if_neg];rw[HF0.o];simp);have hbw0:=hbw;clear HN hbw;go_wp2_with fail;go_loopw [4,5] (λs _ wr=>∃k:Nat,k<=l.length/\s=.int .i64 k/\Hid (∀(i j a x:Nat),i<k->i≠j->l[i]?=some a->l[j]?=some x->zct a x=false)/\BH w wr) (λs _ _=>l.length-(intOf s).toNat)
   case atStart=>exact⟨0,Nat.zero_le _,rfl,hii (λi j a x h=>absurd h (Nat.not_lt_zero _)),hbw0⟩
   case round=>
    clear hbw0;obtain⟨i,hi,rfl,HI,hbw⟩:=hrel
    by_cases hlt:i<l.length
    ·obtain⟨a,ha⟩:∃a,l[i]?=some a:=⟨l[i],gE hlt⟩;have ha16:=h16.o a (List.mem_of_getElem? ha);have Ha:=hii ha;have hil:(i:Int)<(l.length:Int):=oM;have hbw0:=hbw;clear hbw ha;go_wp2_with fail;go_loopw [5] (λs wr=>∃j:Nat,j<=l.length/\s=.int .i64 j/\Hid (∀(j' x:Nat),j'<j->i≠j'->l[j']?=some x->zct a x=false)/\BH w wr) (λs _=>l.length-(intOf s).toNat)
     case atStart=>exact⟨0,Nat.zero_le _,rfl,hii (λj x h=>absurd h (Nat.not_lt_zero _)),hbw0⟩
     case round=>
      clear hbw0;obtain⟨j,hj,rfl,HJ,hbw⟩:=hrel
      by_cases hlj:j<l.length
      ·by_cases hij:i=j
       ·subst hij;have HJ2:Hid (∀(j' x:Nat),j'<i+1->i≠j'->l[j']?=some x->zct a x=false):=hii λj' x h hne hx=>HJ.o j' x oM hne hx
        have hne:((i:Int) != (i:Int))=false:=sM;have hne2:(i != i)=false:=sM;clear HJ;go_upto_region 16 with fail;refine zae (wx:=wr) [vf (.int .i64 i),vf (.int .i64 i),vf bF_,vf bF_,vf undef,vf undef,vf undef,vf undef,vf undef,vf undef,vf undef,vf undef,vf undef,vf bF_] [48,49,50,51,52,53,54,55,56,57,58,59,60,61] br zS ⟨tV,tV,tV,tV,tU,tU,tU,tU,tU,tU,tU,tU,tU,tV,trivial⟩ ?he
        case he=>
         rintro T W hb hA;have f13:T 61=bF_:=hA.at 13 dM;simp only[sA,f13];have hbw:=bu hbw hb;clear hA f13 hb;go_wp2;go_roundw
         case rel=>exact⟨i+1,oM,gM,HJ2,hbw⟩
         case measure=>exact mM
       ·obtain⟨x,hx⟩:∃x,l[j]?=some x:=⟨l[j],gE hlj⟩;have hx16:=h16.o x (List.mem_of_getElem? hx);obtain⟨b1,off1,ea,hc⟩:=(ua.mono hbw) j x hx;obtain⟨b2,off2,ea2,hc2⟩:=(ua.mono hbw) i a Ha.o;have hne:((i:Int) != (j:Int))=true:=by simp;omega
        have hne2:(i != j)=true:=by simp;omega
        have hjl:(j:Int)<(l.length:Int):=oM;obtain⟨z,hz⟩:∃z,zct a x=z:=⟨_,rfl⟩;have HZ:=hii hz;have Hx:=hii hx;have Hij:=hii hij;have HKc:Hid (∀W,CP 90 #[.int .u16 (a:Nat),.int .u16 (x:Nat)] W λe w'=>e=.returned (.bool z)/\BH W w'):=hii λW=>by have:=zdl a x ha16 hx16 W;rw[hz]at this;exact this
        subst ea
        cases ea2
        clear hx hz hij ua;go_upto_region 16 with fail;refine zae (wx:=wr) [vf (.int .i64 i),vf (.int .i64 j),vf (.bool true),vf (.bool true),vf (.slice (sD b1 off1) l.length ca),vf (.int .i64 i),vf (.pointer (some ⟨b1,off1+i,none⟩)),vf (.int .u16 (a:Nat)),vf (.slice (sD b1 off1) l.length ca),vf (.int .i64 j),vf (.pointer (some ⟨b1,off1+j,none⟩)),vf (.int .u16 (x:Nat)),vf (.bool z),vf (.bool z)] [48,49,50,51,52,53,54,55,56,57,58,59,60,61] br zS ⟨tV,tV,tV,tV,tV,tV,tV,?s7,tV,tV,tV,?s11,?s12,tV,trivial⟩ ?he
        case' s7|s11|s12=>
         rintro T W hb hA K hK;simp only[yA,Region.binds]at hA;simp only[sA,hA]at hK|-;have HK:=hii hK;clear hK hA
        case' s7=>
         have h0:=(hb.cell (zaf hc2)).trans hc2
        case' s11=>
         have h0:=(hb.cell (zaf hc)).trans hc
        case s7|s11=>
         exact cH
        case s12=>
         refine wO rfl ?_;go_simp;go_fit (HKc.o W);rintro e w2⟨rfl,hb1⟩
         try dsimp only
         exact d6
        case he=>
         rintro T W hb hA;have f13:T 61=.bool z:=hA.at 13 dM;simp only[sA,f13];have hbw:=bu hbw hb;clear hA f13 hb hc hc2 HKc
         cases z with
         |true=>
          have HE1:Hid (E=1):=hii (by rw[HE.o];exact ziG HF0.o Hij.o Ha.o Hx.o HZ.o);clear HJ HI HE;exact cZ
         |false=>
          have HJ2:Hid (∀(j' x:Nat),j'<j+1->i≠j'->l[j']?=some x->zct a x=false):=hii λj' y h hn hy=>by
           by_cases e:j'=j
           ·subst e;have:=Hx.o.symm.trans hy;simp only[Option.some.injEq]at this;rw[<-this];exact HZ.o
           ·exact HJ.o j' y oM hn hy
          clear HJ;go_wp2;go_roundw
          case rel=>exact⟨j+1,oM,gM,HJ2,hbw⟩
          case measure=>exact mM
      ·obtain rfl:j=l.length:=oM;have HI2:Hid (∀(i' j a x:Nat),i'<i+1->i'≠j->l[i']?=some a->l[j]?=some x->zct a x=false):=hii λi' j' b y h hn hb' hy=>by
        by_cases e:i'=i
        ·subst e;have:=Ha.o.symm.trans hb';simp only[Option.some.injEq]at this;rw[<-this];exact HJ.o j' y (List.getElem?_eq_some_iff.1 hy).1 hn hy
        ·exact HI.o i' j' b y oM hn hb' hy
       clear HJ HI;go_wp2;go_roundw
       case rel=>exact⟨i+1,oM,gM,HI2,hbw⟩
       case measure=>exact mM
    ·obtain rfl:i=l.length:=oM;have HE1:Hid (E=0):=hii (by rw[HE.o];exact ziF λi k a x hne hi hk=>HI.o i k a x (List.getElem?_eq_some_iff.1 hi).1 hne hi hk);clear HI HE;exact cZ
end Go.Proofs.YtfgffkmddanjjaaGreatDoor
