/-
  load: the examples of the chapter.
-/
import Derived.Test.YtfgffkmddanjjaaGreatDoorLs1
set_option linter.unusedVariables false
set_option linter.unusedSimpArgs false
set_option maxRecDepth 100000
set_option maxHeartbeats 25600000
namespace Go.Proofs.YtfgffkmddanjjaaGreatDoor
open _root_.Go.Proofs.Tryz
open Go.RowKit
theorem zpb{w:Wo}{g:Nat}{E:TypeId}{a b c:Nat}(r:Row w g E [.int .u16 (a:Nat),.int .u16 (b:Nat),.int .u16 (c:Nat)]):zaR w (sD g 0) [a,b,c]:=λi x hi=>by
 match i,hi with
 |0,hi=>cases hi;exact⟨g,0,rfl,r.cell (k:=0) (by simp)⟩
 |1,hi=>cases hi;exact⟨g,0,rfl,r.cell (k:=1) (by simp)⟩
 |2,hi=>cases hi;exact⟨g,0,rfl,r.cell (k:=2) (by simp)⟩
 |i+3,hi=>simp at hi
theorem uq3{w:Wo}{g:Nat}{J1:Bool}{ao1:OA}{n1 Y1:Nat}{K1:Bool}{ap1:OA}{m1 Z1:Nat}{J2:Bool}{ao2:OA}{n2 Y2:Nat}{K2:Bool}{ap2:OA}{m2 Z2:Nat}{J3:Bool}{ao3:OA}{n3 Y3:Nat}{K3:Bool}{ap3:OA}{m3 Z3:Nat}{a b c:Rat}(r:Row w g 32 [.bool J1,.slice ao1 n1 Y1,.bool K1,.slice ap1 m1 Z1,.bool J2,.slice ao2 n2 Y2,.bool K2,.slice ap2 m2 Z2,.bool J3,.slice ao3 n3 Y3,.bool K3,.slice ap3 m3 Z3])(h1:zad w (qA J1 ao1 n1 Y1 K1 ap1 m1 Z1) a)(h2:zad w (qA J2 ao2 n2 Y2 K2 ap2 m2 Z2) b)(h3:zad w (qA J3 ao3 n3 Y3 K3 ap3 m3 Z3) c):UQ w (sD g 0) [some a,some b,some c]:=λi o hi=>by
 match i,hi with
 |0,hi=>cases hi;exact⟨g,0,J1,ao1,n1,Y1,K1,ap1,m1,Z1,rfl,⟨r.cell (k:=0) (by simp),r.cell (k:=1) (by simp),r.cell (k:=2) (by simp),r.cell (k:=3) (by simp),trivial,trivial,trivial,trivial⟩,h1⟩
 |1,hi=>cases hi;exact⟨g,0,J2,ao2,n2,Y2,K2,ap2,m2,Z2,rfl,⟨r.cell (k:=4) (by simp),r.cell (k:=5) (by simp),r.cell (k:=6) (by simp),r.cell (k:=7) (by simp),trivial,trivial,trivial,trivial⟩,h2⟩
 |2,hi=>cases hi;exact⟨g,0,J3,ao3,n3,Y3,K3,ap3,m3,Z3,rfl,⟨r.cell (k:=8) (by simp),r.cell (k:=9) (by simp),r.cell (k:=10) (by simp),r.cell (k:=11) (by simp),trivial,trivial,trivial,trivial⟩,h3⟩
 |i+3,hi=>simp at hi
theorem eu2{w:Wo}{g:Nat}{J1:Bool}{ao1:OA}{n1 Y1:Nat}{K1:Bool}{ap1:OA}{m1 Z1:Nat}{J2:Bool}{ao2:OA}{n2 Y2:Nat}{K2:Bool}{ap2:OA}{m2 Z2:Nat}{a b:Rat}(r:Row w g 59 [.int .u16 ((0:Nat):Int),.int .u16 ((0:Nat):Int),.bool J1,.slice ao1 n1 Y1,.bool K1,.slice ap1 m1 Z1,.int .u16 ((0:Nat):Int),.int .u16 ((0:Nat):Int),.bool J2,.slice ao2 n2 Y2,.bool K2,.slice ap2 m2 Z2])(h1:zad w (qA J1 ao1 n1 Y1 K1 ap1 m1 Z1) a)(h2:zad w (qA J2 ao2 n2 Y2 K2 ap2 m2 Z2) b):EU 6 zaB w (sD g 0) [((0,0),a),((0,0),b)]:=λi o hi=>by
 match i,hi with
 |0,hi=>
  cases hi
  refine⟨g,0,_,rfl,rfl,λj u hj=>?_,J1,ao1,n1,Y1,K1,ap1,m1,Z1,rfl,h1⟩
  match j,hj with
  |0,hj=>cases hj;exact r.cell (k:=0) (by simp)
  |1,hj=>cases hj;exact r.cell (k:=1) (by simp)
  |2,hj=>cases hj;exact r.cell (k:=2) (by simp)
  |3,hj=>cases hj;exact r.cell (k:=3) (by simp)
  |4,hj=>cases hj;exact r.cell (k:=4) (by simp)
  |5,hj=>cases hj;exact r.cell (k:=5) (by simp)
  |j+6,hj=>simp at hj
 |1,hi=>
  cases hi
  refine⟨g,0,_,rfl,rfl,λj u hj=>?_,J2,ao2,n2,Y2,K2,ap2,m2,Z2,rfl,h2⟩
  match j,hj with
  |0,hj=>cases hj;exact r.cell (k:=6) (by simp)
  |1,hj=>cases hj;exact r.cell (k:=7) (by simp)
  |2,hj=>cases hj;exact r.cell (k:=8) (by simp)
  |3,hj=>cases hj;exact r.cell (k:=9) (by simp)
  |4,hj=>cases hj;exact r.cell (k:=10) (by simp)
  |5,hj=>cases hj;exact r.cell (k:=11) (by simp)
  |j+6,hj=>simp at hj
 |i+2,hi=>simp at hi
theorem eu3{w:Wo}{g:Nat}{E:TypeId}{a b c:Nat}(r:Row w g E [.int .i64 (a:Nat),.int .i64 (b:Nat),.int .i64 (c:Nat)]):EU 1 zkd w (sD g 0) [a,b,c]:=λi x hi=>by
 match i,hi with
 |0,hi=>
  cases hi
  refine⟨g,0,[.int .i64 (a:Nat)],rfl,rfl,λj u hj=>?_,rfl⟩
  match j,hj with
  |0,hj=>cases hj;exact r.cell (k:=0) (by simp)
  |j+1,hj=>simp at hj
 |1,hi=>
  cases hi
  refine⟨g,0,[.int .i64 (b:Nat)],rfl,rfl,λj u hj=>?_,rfl⟩
  match j,hj with
  |0,hj=>cases hj;exact r.cell (k:=1) (by simp)
  |j+1,hj=>simp at hj
 |2,hi=>
  cases hi
  refine⟨g,0,[.int .i64 (c:Nat)],rfl,rfl,λj u hj=>?_,rfl⟩
  match j,hj with
  |0,hj=>cases hj;exact r.cell (k:=2) (by simp)
  |j+1,hj=>simp at hj
 |i+3,hi=>simp at hi
theorem zc3(w:Wo)(hE:Env w) :
  CP 8 #[] w λe w'=>e=.returned (.bool true)/\BH w w':=by
 have hbw:=Below.refl w.heap.size w;go_enter func8,ntmps8;go_upto_region 2 with fail;obtain⟨w1,gF,hw9,hg9,hb,rF⟩:=bxr w [.int .u16 3,.int .u16 5,.int .u16 6] 52;rw[<-hw9,<-hg9];have HgF:Hid (w.heap.size<=gF):=hii (by have:=hbw.size;omega);clear hw9 hg9;have hE:=hE.mono hb;have hbw:=bu hbw hb;clear hb;have uF:zaR w1 (sD gF 0) zba:=zpb rF;clear rF;go_wp2_with fail;go_fit (za0 1 1 w1 (by decide) (by decide) (by decide) (by decide) (hii (by decide)) hE);rintro e w2⟨hz,hb⟩;obtain⟨J1,ao1,n1,Y1,K1,ap1,m1,Z1,rfl,hv1⟩:=hz.rat;have hv1:zad w2 (qA J1 ao1 n1 Y1 K1 ap1 m1 Z1) 1:=hv1;have uF:=uF.mono hb;have hE:=hE.mono hb;have hbw:=bu hbw hb;clear hb;clear hz;go_wp2_with fail;go_fit (za0 1 1 w2 (by decide) (by decide) (by decide) (by decide) (hii (by decide)) hE);rintro e w3⟨hz,hb⟩;obtain⟨J2,ao2,n2,Y2,K2,ap2,m2,Z2,rfl,hv2⟩:=hz.rat;have hv2:zad w3 (qA J2 ao2 n2 Y2 K2 ap2 m2 Z2) 1:=hv2;have uF:=uF.mono hb;have hE:=hE.mono hb;have hv1:=hv1.mono hb;have hbw:=bu hbw hb;clear hb;clear hz;go_wp2_with fail;go_fit (za0 1 1 w3 (by decide) (by decide) (by decide) (by decide) (hii (by decide)) hE);rintro e w4⟨hz,hb⟩;obtain⟨J3,ao3,n3,Y3,K3,ap3,m3,Z3,rfl,hv3⟩:=hz.rat;have hv3:zad w4 (qA J3 ao3 n3 Y3 K3 ap3 m3 Z3) 1:=hv3;have uF:=uF.mono hb;have hE:=hE.mono hb;have hv1:=hv1.mono hb;have hv2:=hv2.mono hb;have hbw:=bu hbw hb;clear hb;clear hz;go_upto_region 3 with fail;obtain⟨w5,gO,hw9,hg9,hb,rO⟩:=bxr w4 [.bool J1,.slice ao1 n1 Y1,.bool K1,.slice ap1 m1 Z1,.bool J2,.slice ao2 n2 Y2,.bool K2,.slice ap2 m2 Z2,.bool J3,.slice ao3 n3 Y3,.bool K3,.slice ap3 m3 Z3] 32;rw[<-hw9,<-hg9];have HgO:Hid (w.heap.size<=gO):=hii (by have:=hbw.size;omega);clear hw9 hg9;have uF:=uF.mono hb;have hE:=hE.mono hb;have hv1:=hv1.mono hb;have hv2:=hv2.mono hb;have hv3:=hv3.mono hb;have hbw:=bu hbw hb;clear hb;have uO:UQ w5 (sD gO 0) [some 1,some 1,some 1]:=uq3 rO hv1 hv2 hv3;clear rO hv1 hv2 hv3;go_wp2_with fail;go_fit (za0 1 2 w5 (by decide) (by decide) (by decide) (by decide) (hii (by decide)) hE);rintro e w6⟨hz,hb⟩;obtain⟨J4,ao4,n4,Y4,K4,ap4,m4,Z4,rfl,hv4⟩:=hz.rat;have hv4:zad w6 (qA J4 ao4 n4 Y4 K4 ap4 m4 Z4) hf:=hv4;have uF:=uF.mono hb;have uO:=uO.mono hb;have hE:=hE.mono hb;have hbw:=bu hbw hb;clear hb;clear hz;have HO:=zeq zba zba hf [1,1,1] 3 (hii zm8) _ _ (sD gO 0) 3 3 3 _ w6 nl nl uF uF hv4 uO hE;rw[show zba.length=3 from rfl,show [(1:Rat),1,1].length=3 from rfl]at HO;go_wp2_with fail;(with_reducible refine HO.mono ?_);rintro e w7⟨hOR,hb⟩;have uF:=uF.mono hb;have uO:=uO.mono hb;have hE:=hE.mono hb;have hbw:=bu hbw hb;clear hb;clear HO hv4;obtain⟨v,ld,Ps,Qs,rfl,hBV,hBal⟩:=hOR;have HBal:=hii hBal;have Hld:=hii (zow hBal);clear hBal;obtain⟨J5,ao5,n5,Y5,K5,ap5,m5,Z5,aB,cB,aQ,cQ,rfl,hv5,uB,uQ⟩:=hBV;go_upto_region 4 with fail;obtain⟨w8,g3,hw9,hg9,hb,r3⟩:=bxr w7 [.bool J5,.slice ao5 n5 Y5,.bool K5,.slice ap5 m5 Z5,.slice aB (shs (prs zba zba) Ps).length cB,.slice aQ Qs.length cQ] 39;rw[<-hw9,<-hg9];have Hg3:Hid (w.heap.size<=g3):=hii (by have:=hbw.size;omega);clear hw9 hg9;have uF:=uF.mono hb;have uO:=uO.mono hb;have uQ:=uQ.mono hb;have uB:=uB.mono zal hb;have hv5:=hv5.mono hb;have hE:=hE.mono hb;have hbw:=bu hbw hb;clear hb;have HB:=zf4 zba 3 (sD gF 0) 3 w8 (by decide) nl (by decide) (by decide) uF (hii (zjm.s16 (by decide))) hE;rw[show zba.length=3 from rfl]at HB;go_wp2_with fail;(with_reducible refine HB.mono ?_);rintro e w9⟨hBP,hb⟩;have uF:=uF.mono hb;have uO:=uO.mono hb;have uQ:=uQ.mono hb;have uB:=uB.mono zal hb;have hv5:=hv5.mono hb;have hE:=hE.mono hb;have r3:=r3.below hb;have hbw:=bu hbw hb;clear hb;clear HB;rcases hBP with⟨h,-⟩|⟨-,J1,ao1,n1,Y1,K1,ap1,m1,Z1,J2,ao2,n2,Y2,K2,ap2,m2,Z2,rfl,hv1,hv2⟩
 case inl=>exact absurd znL h
 have hv1:zad w9 (qA J1 ao1 n1 Y1 K1 ap1 m1 Z1) (Rat.divInt 1 2):=hv1;have hv2:zad w9 (qA J2 ao2 n2 Y2 K2 ap2 m2 Z2) (Rat.divInt 2 3):=hv2;go_upto_region 5 with fail;obtain⟨wx,hwx,r5,r6,hb⟩:=zaO w9 32 32 [.bool J1,.slice ao1 n1 Y1,.bool K1,.slice ap1 m1 Z1] [.bool J2,.slice ao2 n2 Y2,.bool K2,.slice ap2 m2 Z2];simp only[List.toArray]at hwx;rw[<-hwx];clear hwx;obtain⟨wA,rfl⟩:=exi wx;obtain⟨g6,hg6⟩:∃g,g=w9.heap.size+1:=⟨_,rfl⟩;rw[<-hg6]at r6|-;clear hg6;obtain⟨g5,hg5⟩:∃g,g=w9.heap.size:=⟨_,rfl⟩;rw[<-hg5]at r5|-;clear hg5;have uF:=uF.mono hb;have uO:=uO.mono hb;have uQ:=uQ.mono hb;have hv1:=hv1.mono hb;have hv2:=hv2.mono hb;have uB:=uB.mono zal hb;have hv5:=hv5.mono hb;have hE:=hE.mono hb;have r3:=r3.below hb;have hbw:=bu hbw hb;clear hb;go_wp2_with fail;go_fit (za0 1 2 wA (by decide) (by decide) (by decide) (by decide) (hii (by decide)) hE);rintro e wB⟨hz,hb⟩;obtain⟨J3,ao3,n3,Y3,K3,ap3,m3,Z3,rfl,hv3⟩:=hz.rat;have hv3:zad wB (qA J3 ao3 n3 Y3 K3 ap3 m3 Z3) hf:=hv3;have uF:=uF.mono hb;have uO:=uO.mono hb;have uQ:=uQ.mono hb;have hv1:=hv1.mono hb;have hv2:=hv2.mono hb;have uB:=uB.mono zal hb;have hv5:=hv5.mono hb;have hE:=hE.mono hb;have r3:=r3.below hb;have r5:=r5.below hb;have r6:=r6.below hb;have hbw:=bu hbw hb;clear hb;clear hz;go_wp2_with fail;go_fit (za0 1 2 wB (by decide) (by decide) (by decide) (by decide) (hii (by decide)) hE);rintro e wC⟨hz,hb⟩;obtain⟨J4,ao4,n4,Y4,K4,ap4,m4,Z4,rfl,hv4⟩:=hz.rat;have hv4:zad wC (qA J4 ao4 n4 Y4 K4 ap4 m4 Z4) hf:=hv4;have uF:=uF.mono hb;have uO:=uO.mono hb;have uQ:=uQ.mono hb;have hv1:=hv1.mono hb;have hv2:=hv2.mono hb;have hv3:=hv3.mono hb;have uB:=uB.mono zal hb;have hv5:=hv5.mono hb;have hE:=hE.mono hb;have r3:=r3.below hb;have r5:=r5.below hb;have r6:=r6.below hb;have hbw:=bu hbw hb;clear hb;clear hz;go_upto_region 6 with fail;obtain⟨wD,gS,hw9,hg9,hb,rS⟩:=bxr wC [.int .u16 0,.int .u16 0,.bool J3,.slice ao3 n3 Y3,.bool K3,.slice ap3 m3 Z3,.int .u16 0,.int .u16 0,.bool J4,.slice ao4 n4 Y4,.bool K4,.slice ap4 m4 Z4] 59;rw[<-hw9,<-hg9];have HgS:Hid (w.heap.size<=gS):=hii (by have:=hbw.size;omega);clear hw9 hg9;have uF:=uF.mono hb;have uO:=uO.mono hb;have uQ:=uQ.mono hb;have hv1:=hv1.mono hb;have hv2:=hv2.mono hb;have hv3:=hv3.mono hb;have hv4:=hv4.mono hb;have uB:=uB.mono zal hb;have hv5:=hv5.mono hb;have hE:=hE.mono hb;have r3:=r3.below hb;have r5:=r5.below hb;have r6:=r6.below hb;have hbw:=bu hbw hb;clear hb;have uS:EU 6 zaB wD (sD gS 0) sh2:=eu2 rS hv3 hv4;have HSc:=zdQ sh2 (λ_=>hf) 3 (sD gS 0) 2 wD (by decide) (by decide) (by decide) (hii λi s hs=>by
  match i,hs with
  |0,hs=>cases hs;rfl
  |1,hs=>cases hs;rfl
  |i+2,hs=>simp[sh2]at hs) (hii (ziU (D:=2) (M:=1) (by decide) (λi _=>⟨1,by decide+kernel,by decide⟩) (by decide))) (hii znu) uS.shareQ hE
 rw[show sh2.length=2 from rfl,znj,show((3:Nat):Int)=3 from rfl]at HSc;go_wp2_with fail;(with_reducible refine HSc.mono ?_);rintro e wE⟨⟨aI,cI,rfl,uI⟩,hb⟩;have uF:=uF.mono hb;have uO:=uO.mono hb;have uQ:=uQ.mono hb;have hv1:=hv1.mono hb;have hv2:=hv2.mono hb;have uB:=uB.mono zal hb;have hv5:=hv5.mono hb;have hE:=hE.mono hb;have r3:=r3.below hb;have r5:=r5.below hb;have r6:=r6.below hb;have hbw:=bu hbw hb;clear hb;clear HSc uS rS hv3 hv4;have hvL:zad wE (qA J5 ao5 n5 Y5 K5 ap5 m5 Z5) (Rat.divInt 2 3):=by rw[<-Hld.out];exact hv5
 go_upto_region 7 with fail;obtain⟨wa,rfl⟩:=exi wE;refine zae (wx:=wa) [vf (.int .i64 0),vf bF_,vf bF_,vf (.int .i64 0),vf bF_,vf bF_,vf bF_,vf (.int .i64 0),vf bF_,vf bF_,vf bF_,vf (pT g3 0),vf (.agg #[.bool J5,.slice ao5 n5 Y5,.bool K5,.slice ap5 m5 Z5]),(λW v=>zad W v (Rat.divInt 2 3)),vf (.bool true),vf bF_,vf bF_,vf bF_,vf (.slice aI 3 cI),(λW v=>∃n,v=.slice (sD n 0) 3 3/\EU 1 zkd W (sD n 0) [0,1,0]),vf (.bool true),vf bF_,vf bF_] [40,41,42,43,44,45,46,47,48,49,50,51,52,53,54,55,56,57,58,59,60,61,62] br ⟨sV _,sV _,sV _,sV _,sV _,sV _,sV _,sV _,sV _,sV _,sV _,sV _,sV _,(λ_ _ _ h hb=>h.mono hb),sV _,sV _,sV _,sV _,sV _,(λ_ _ _ ⟨n,e,h⟩ hb=>⟨n,e,h.mono zaP hb⟩),sV _,sV _,sV _,trivial⟩ ⟨?s0,?s1,?s2,?s3,?s4,?s5,?s6,?s7,?s8,?s9,?s10,?s11,?s12,?s13,?s14,?s15,?s16,?s17,?s18,?s19,?s20,?s21,?s22,trivial⟩ ?he
 case' s0|s1|s2|s3|s4|s5|s6|s7|s8|s9|s10|s11|s12|s13|s14|s15|s16|s17|s18|s19|s20|s21|s22=>
  rintro T W hb hA K hK
 case' s0=>
  simp only[sA]at hK|-
 case' s1=>
  simp only[sA,f0 T 40 hA]at hK|-
 case' s2=>
  simp only[sA,f0 T 41 hA]at hK|-
 case' s3=>
  simp only[sA,f0 T 42 hA]at hK|-
 case' s4=>
  simp only[sA,f0 T 43 hA,f1 T 42 hA]at hK|-
 case' s5=>
  simp only[sA,f0 T 42 hA,f1 T 44 hA]at hK|-
 case' s6=>
  simp only[sA,f0 T 45 hA]at hK|-
 case' s7=>
  simp only[sA,f0 T 46 hA]at hK|-
 case' s8=>
  simp only[sA,f0 T 47 hA,f1 T 46 hA]at hK|-
 case' s9=>
  simp only[sA,f0 T 46 hA,f1 T 48 hA]at hK|-
 case' s10=>
  simp only[sA,f0 T 49 hA]at hK|-
 case' s11=>
  simp only[sA,f0 T 50 hA]at hK|-
 case' s15=>
  simp only[sA,f0 T 54 hA,f1 T 50 hA]at hK|-
 case' s16=>
  simp only[sA,f0 T 50 hA,f1 T 55 hA]at hK|-
 case' s17=>
  simp only[sA,f0 T 56 hA]at hK|-
 case' s18=>
  simp only[sA,f0 T 57 hA]at hK|-
 case' s21=>
  simp only[sA,f0 T 60 hA,f1 T 57 hA]at hK|-
 case' s22=>
  simp only[sA,f0 T 57 hA,f1 T 61 hA]at hK|-
 case s0|s1|s2|s3|s4|s5|s6|s7|s8|s9|s10|s11|s15|s16|s17|s18|s21|s22=>
  have HK:=hii hK;clear hK hA;refine wO rfl ?_;go_simp;exact HK.out _ _ br (rfl)
 case s12=>
  simp only[sA,f0 T 51 hA,f1 T 50 hA]at hK|-;have HK:=hii hK;clear hK hA;obtain⟨y0,y1,y2,y3,y4,y5⟩:=(r3.below hb).n6;refine wO rfl ?_;go_simp;exact HK.out _ _ br (rfl)
 case s13=>
  simp only[sA,f0 T 50 hA]at hK|-;have HK:=hii hK;clear hK hA;refine wO rfl ?_;go_simp;go_fit (za0 2 3 W (by decide) (by decide) (by decide) (by decide) (hii (by decide)) (hE.mono hb));rintro e w1⟨hz,hb1⟩;obtain⟨J7,ao7,n7,Y7,K7,ap7,m7,Z7,rfl,hV7⟩:=hz.rat
  try dsimp only
  exact HK.out _ _ hb1 (hV7)
 case s14=>
  have r13:(_:Wo->Vl->Prop) W (T 53):=hA.2.1;simp only[sA,f0 T 52 hA,f3 T 50 hA]at hK|-;have HK:=hii hK;clear hK hA;have r13:zad W _ (Rat.divInt 2 3):=r13;obtain⟨J8,ao8,n8,Y8,K8,ap8,m8,Z8,e13⟩:=r13.parts;rw[e13]at r13;simp only[e13]at HK|-;refine wO rfl ?_;go_simp;go_fit (zi3 (hvL.mono hb) r13 (hE.mono hb));rintro e w1⟨rfl,hb1⟩
  try dsimp only
  exact HK.out _ _ hb1 (rfl)
 case s19=>
  simp only[sA,f0 T 57 hA]at hK|-;have HK:=hii hK;clear hK hA;refine wO rfl ?_;go_simp;have hb1:=bA W (.cells #[.int .i64 0,.int .i64 1,.int .i64 0] 3);have hrw:Row (W.alloc (.cells #[.int .i64 0,.int .i64 1,.int .i64 0] 3)) W.heap.size 3 [.int .i64 ((0:Nat):Int),.int .i64 ((1:Nat):Int),.int .i64 ((0:Nat):Int)]:=heap_alloc_new _ _;have he3:=eu3 hrw
  try dsimp only
  exact HK.out _ _ hb1 (⟨_,rfl,he3⟩)
 case s20=>
  have r19:(_:Wo->Vl->Prop) W (T 59):=hA.2.1;simp only[sA,f0 T 58 hA,f2 T 57 hA]at hK|-;have HK:=hii hK;clear hK hA;obtain⟨n9,e19,h19⟩:=r19;simp only[e19]at HK|-;refine wO rfl ?_;go_simp;have HQ:=zgO [0,1,0] aI (sD n9 0) cI 3 W (by decide) (uI.mono zaP hb) h19;rw[show([0,1,0]:LN).length=3 from rfl]at HQ;(with_reducible refine HQ.mono ?_);rintro e w1⟨rfl,hb1⟩
  try dsimp only
  exact HK.out _ _ hb1 (rfl)
 case he=>
  rintro T W hb hA;have f22:T 62=bF_:=hA.at 22 (by decide);simp only[sA,f22];have uF:=uF.mono hb;have uO:=uO.mono hb;have uQ:=uQ.mono hb;have hv1:=hv1.mono hb;have hv2:=hv2.mono hb;have uB:=uB.mono zal hb;have hv5:=hv5.mono hb;have hE:=hE.mono hb;have r3:=r3.below hb;have r5:=r5.below hb;have r6:=r6.below hb;have hbw:=bu hbw hb;clear hb;clear hA f22 hvL uI;obtain⟨wb,rfl⟩:=exi W;go_upto_region 9 with fail;refine zae (wx:=wb) [vf (.agg #[.bool J1,.slice ao1 n1 Y1,.bool K1,.slice ap1 m1 Z1]),(λW v=>zad W v (Rat.divInt 1 2)),vf (.bool true),vf (.bool true),vf (.agg #[.bool J2,.slice ao2 n2 Y2,.bool K2,.slice ap2 m2 Z2]),(λW v=>zad W v (Rat.divInt 2 3)),vf (.bool true),vf (.bool true),vf (.bool true),vf (.slice (sD gF 0) 3 3),vf (.slice (sD gF 0) 3 3),(λW v=>zad W v (Rat.divInt 1 2)),vf (.slice (sD gO 0) 3 3),vf (.agg #[.bool J5,.slice ao5 n5 Y5,.bool K5,.slice ap5 m5 Z5,.slice aB (shs (prs zba zba) Ps).length cB,.slice aQ Qs.length cQ]),vf (.bool true),vf (.bool true),vf (.bool true)] [63,64,65,66,67,68,69,70,71,72,73,74,75,76,77,78,0] br ⟨sV _,(λ_ _ _ h hb=>h.mono hb),sV _,sV _,sV _,(λ_ _ _ h hb=>h.mono hb),sV _,sV _,sV _,sV _,sV _,(λ_ _ _ h hb=>h.mono hb),sV _,sV _,sV _,sV _,sV _,trivial⟩ ⟨?s0,?s1,?s2,?s3,?s4,?s5,?s6,?s7,?s8,?s9,?s10,?s11,?s12,?s13,?s14,?s15,?s16,trivial⟩ ?he
  case' s0|s1|s2|s3|s4|s5|s6|s7|s8|s9|s10|s11|s12|s13|s14|s15|s16=>
   rintro T W hb hA K hK
  case' s0=>
   simp only[sA]at hK|-;have HK:=hii hK;clear hK hA;obtain⟨k0,k1,k2,k3⟩:=(r5.below hb).n4
  case' s4=>
   simp only[sA,f0 T 66 hA]at hK|-;have HK:=hii hK;clear hK hA;obtain⟨k0,k1,k2,k3⟩:=(r6.below hb).n4
  case' s13=>
   simp only[sA,f0 T 71 hA]at hK|-;have HK:=hii hK;clear hK hA;obtain⟨y0,y1,y2,y3,y4,y5⟩:=(r3.below hb).n6
  case' s1=>
   simp only[sA]at hK|-
  case' s9|s10|s11|s12=>
   simp only[sA,f0 T 71 hA]at hK|-
  case' s3=>
   simp only[sA,f0 T 65 hA]at hK|-
  case' s7=>
   simp only[sA,f0 T 66 hA,f1 T 69 hA]at hK|-
  case' s8=>
   simp only[sA,f0 T 70 hA]at hK|-
  case' s15=>
   simp only[sA,f0 T 71 hA,f1 T 77 hA]at hK|-
  case' s16=>
   simp only[sA,f0 T 78 hA]at hK|-
  case s0|s4|s13=>
   refine wO rfl ?_;go_simp;exact HK.out _ _ br (rfl)
  case s1|s11=>
   have HK:=hii hK;clear hK hA;refine wO rfl ?_;go_simp;go_fit (za0 1 2 W (by decide) (by decide) (by decide) (by decide) (hii (by decide)) (hE.mono hb));rintro e w1⟨hz,hb1⟩;obtain⟨J7,ao7,n7,Y7,K7,ap7,m7,Z7,rfl,hV7⟩:=hz.rat
   try dsimp only
   exact HK.out _ _ hb1 (hV7)
  case s3|s7|s8|s9|s10|s12|s15|s16=>
   have HK:=hii hK;clear hK hA;refine wO rfl ?_;go_simp;exact HK.out _ _ br (rfl)
  case s2=>
   have r1:(_:Wo->Vl->Prop) W (T 64):=hA.2.1;simp only[sA,f0 T 63 hA]at hK|-;have HK:=hii hK;clear hK hA;have r1:zad W _ (Rat.divInt 1 2):=r1;obtain⟨J8,ao8,n8,Y8,K8,ap8,m8,Z8,e1⟩:=r1.parts;rw[e1]at r1;simp only[e1]at HK|-;refine wO rfl ?_;go_simp;go_fit (zi3 (hv1.mono hb) r1 (hE.mono hb));rintro e w1⟨rfl,hb1⟩
   try dsimp only
   exact HK.out _ _ hb1 (rfl)
  case s5=>
   simp only[sA,f0 T 66 hA]at hK|-;have HK:=hii hK;clear hK hA;refine wO rfl ?_;go_simp;go_fit (za0 2 3 W (by decide) (by decide) (by decide) (by decide) (hii (by decide)) (hE.mono hb));rintro e w1⟨hz,hb1⟩;obtain⟨J7,ao7,n7,Y7,K7,ap7,m7,Z7,rfl,hV7⟩:=hz.rat
   try dsimp only
   exact HK.out _ _ hb1 (hV7)
  case s6=>
   have r5:(_:Wo->Vl->Prop) W (T 68):=hA.2.1;simp only[sA,f0 T 67 hA,f3 T 66 hA]at hK|-;have HK:=hii hK;clear hK hA;have r5:zad W _ (Rat.divInt 2 3):=r5;obtain⟨J8,ao8,n8,Y8,K8,ap8,m8,Z8,e5⟩:=r5.parts;rw[e5]at r5;simp only[e5]at HK|-;refine wO rfl ?_;go_simp;go_fit (zi3 (hv2.mono hb) r5 (hE.mono hb));rintro e w1⟨rfl,hb1⟩
   try dsimp only
   exact HK.out _ _ hb1 (rfl)
  case s14=>
   have r11:(_:Wo->Vl->Prop) W (T 74):=hA.2.2.1;simp only[sA,f0 T 72 hA,f1 T 73 hA,f3 T 75 hA,f4 T 76 hA,f6 T 71 hA]at hK|-;have HK:=hii hK;clear hK hA;have r11:zad W _ (Rat.divInt 1 2):=r11;obtain⟨J8,ao8,n8,Y8,K8,ap8,m8,Z8,e11⟩:=r11.parts;rw[e11]at r11;simp only[e11]at HK|-;refine wO rfl ?_;go_simp;have HC:=zlc zba zba hf [1,1,1] 3 (hii zm8) _ _ (sD gO 0) 3 3 3 _ _ ld Ps Qs HBal W nl nl (uF.mono hb) (uF.mono hb) r11 (uO.mono hb) ⟨_,_,_,_,_,_,_,_,aB,cB,aQ,cQ,rfl,hv5.mono hb,uB.mono zal hb,uQ.mono hb⟩ (hE.mono hb);rw[show zba.length=3 from rfl,show [(1:Rat),1,1].length=3 from rfl]at HC;(with_reducible refine HC.mono ?_);rintro e w1⟨rfl,hb1⟩
   try dsimp only
   exact HK.out _ _ hb1 (rfl)
  case he=>
   rintro T W hb hA;have f16:T 0=.bool true:=hA.at 16 (by decide);simp only[sA,f16];have hbw:=bu hbw hb;clear hA f16 hb;go_wp2;go_ret;exact⟨rfl,hbw⟩
theorem Tryz.info52:(Tryz.prog.info? 52).map (λi=>(i.zero,i.size,i.bytes))=some (some (.int .u16 0),1,2):=by kernel_rfl
theorem Tryz.slice27:Tryz.prog.underlying 27=some (.slice 52):=by kernel_rfl
theorem zaR.nil{w:Wo}{a:OA}:zaR w a []:=λi x h=>by simp at h
theorem zkY(x k:Nat):(List.range (k+1)).countP (λi=>x.testBit i)=(List.range k).countP (λi=>x.testBit i)+(if x.testBit k then 1 else 0):=by
 rw[List.range_succ,List.countP_append,List.countP_singleton]
theorem zg8(x:Nat)(w:Wo)(hx:x<65536) :
  CP 137 #[.int .u16 (x:Nat)] w λe w'=>e=.returned (.int .i64 (cnt x:Nat))/\BH w w':=by
 have hbw:=Below.refl w.heap.size w;go_enter func137,ntmps137;go_wp2_with fail;go_loopw [3,4] (λv s wr=>∃k c:Nat,k<=16/\s=.int .i64 k/\v=.int .i64 (c:Nat)/\c<=k/\Hid (c=(List.range k).countP λi=>x.testBit i)/\wr=w) (λ_ s _=>16-(intOf s).toNat)
 case atStart=>exact⟨0,0,Nat.zero_le _,rfl,rfl,nl,hii rfl,by trivial⟩
 case round=>
  obtain⟨k,c,hk,rfl,rfl,hc,HC,rfl⟩:=hrel
  by_cases hlt:k<16
  ·have HN:=hii (zkY x k);have hz:=znM x k hx;obtain⟨b,hbb⟩:∃b,x.testBit k=b:=⟨_,rfl⟩;rw[hbb]at hz HN;have hkn:(k:Int)<16:=by omega
   clear hbb
   cases b with
   |false=>
    have hz:bits .and .u16 ((x:Int) / 2 ^ k) 1=0:=hz;have HN:Hid ((List.range (k+1)).countP (λi=>x.testBit i)=c):=hii (by rw[HN.out,HC.out];rfl);go_wp2;go_roundw
    case rel=>exact⟨k+1,c,by omega,by go_num,by go_num,by omega,hii HN.out.symm,by trivial⟩
    case measure=>simp[intOf];omega
   |true=>
    have hz:bits .and .u16 ((x:Int) / 2 ^ k) 1=1:=hz;have HN:Hid ((List.range (k+1)).countP (λi=>x.testBit i)=c+1):=hii (by rw[HN.out,HC.out];rfl);go_wp2;go_roundw
    case rel=>exact⟨k+1,c+1,by omega,by go_num,by go_num,by omega,hii HN.out.symm,by trivial⟩
    case measure=>simp[intOf];omega
  ·obtain rfl:k=16:=by omega
   have HC:Hid (cnt x=c):=hii (by rw[HC.out];rfl);go_wp2;go_ret;exact⟨by rw[HC.out];rfl,hbw⟩
theorem zhZ(a b:Nat)(w:Wo)(ha:a<65536)(hb':b<65536) :
  CP 89 #[.int .u16 (a:Nat),.int .u16 (b:Nat)] w λe w'=>e=.returned (.bool (bef a b))/\BH w w':=by
 have hbw:=Below.refl w.heap.size w;obtain⟨z,hz⟩:∃z,bef a b=z:=⟨_,rfl⟩;rw[hz];have hz:z=(decide (cnt a<cnt b) || (decide (cnt a=cnt b) && decide (a<b))):=by rw[<-hz];rfl
 have H1:=λW=>zg8 a W ha
 have H2:=λW=>zg8 b W hb'
 have l1:=zdL a;have l2:=zdL b;generalize cnt a=p at H1 hz l1;generalize cnt b=q at H2 hz l2;have HZ:=hii hz;clear hz
 by_cases hpq:p=q
 ·have hne:((p:Int) != (q:Int))=false:=by simp;omega
  have hd:decide (a<b)=z:=by rw[HZ.out,hpq];simp
  clear hpq HZ;go_enter func89,ntmps89;go_wp2_with fail;go_fit (H1 w);rintro e w1⟨rfl,hb⟩;have hbw:=bu hbw hb;clear hb;go_wp2_with fail;go_fit (H2 w1);rintro e w2⟨rfl,hb⟩;have hbw:=bu hbw hb;clear hb;go_wp2;go_ret;exact⟨by rw[<-hd];rfl,hbw⟩
 ·have hne:((p:Int) != (q:Int))=true:=by simp;omega
  have hd:decide (p<q)=z:=by rw[HZ.out];simp[hpq]
  clear hpq HZ;go_enter func89,ntmps89;go_wp2_with fail;go_fit (H1 w);rintro e w1⟨rfl,hb⟩;have hbw:=bu hbw hb;clear hb;go_wp2_with fail;go_fit (H2 w1);rintro e w2⟨rfl,hb⟩;have hbw:=bu hbw hb;clear hb;go_wp2_with fail;go_fit (H1 w2);rintro e w3⟨rfl,hb⟩;have hbw:=bu hbw hb;clear hb;go_wp2_with fail;go_fit (H2 w3);rintro e w4⟨rfl,hb⟩;have hbw:=bu hbw hb;clear hb;go_wp2;go_ret;exact⟨by rw[<-hd];rfl,hbw⟩
theorem zfw(a b:Nat)(ha:a<65536)(hb':b<65536)(w:Wo) :
  CP 90 #[.int .u16 (a:Nat),.int .u16 (b:Nat)] w λe w'=>e=.returned (.bool (zdv a b))/\BH w w':=by
 have e1:=zhJ a b ha hb';obtain⟨z,hz⟩:∃z,zdv a b=z:=⟨_,rfl⟩;have e2:(bits .andNot .u16 (b:Int) (a:Int)==0)=z:=by rw[e1,<-hz];rfl
 rw[hz];clear e1 hz;go_enter func90,ntmps90;go_wp2;go_ret;exact⟨rfl,br⟩
end Go.Proofs.YtfgffkmddanjjaaGreatDoor
