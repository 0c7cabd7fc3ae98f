/-
  load: the examples of the chapter.
-/
import Derived.Test.YtfgffkmddanjjaaGreatDoorLs1
set_option linter.unusedVariables false
set_option linter.unusedSimpArgs false
set_option maxRecDepth 100000
set_option maxHeartbeats 25600000
namespace Go.Proofs.YtfgffkmddanjjaaGreatDoor
open _root_.Go.Proofs.Tryz
open Go.RowKit
theorem zoi {w:World} {g:Nat} {E:TypeId} {a b c:Nat} (r:Row w g E [.int .u16 (a:Nat),.int .u16 (b:Nat),.int .u16 (c:Nat)]):zaM w (some ⟨g,0,none⟩) [a,b,c]:=λ i x hi => by
 match i,hi with
 | 0,hi => cases hi; exact ⟨g,0,rfl,r.cell (k:=0) (by simp)⟩
 | 1,hi => cases hi; exact ⟨g,0,rfl,r.cell (k:=1) (by simp)⟩
 | 2,hi => cases hi; exact ⟨g,0,rfl,r.cell (k:=2) (by simp)⟩
 | i + 3,hi => simp at hi
theorem uq3 {w:World} {g:Nat} {J1:Bool} {ao1:Option Addr} {n1 Y1:Nat} {K1:Bool} {ap1:Option Addr} {m1 Z1:Nat} {J2:Bool} {ao2:Option Addr} {n2 Y2:Nat} {K2:Bool} {ap2:Option Addr} {m2 Z2:Nat} {J3:Bool} {ao3:Option Addr} {n3 Y3:Nat} {K3:Bool} {ap3:Option Addr} {m3 Z3:Nat} {a b c:Rat} (r:Row w g 32 [.bool J1,.slice ao1 n1 Y1,.bool K1,.slice ap1 m1 Z1,.bool J2,.slice ao2 n2 Y2,.bool K2,.slice ap2 m2 Z2,.bool J3,.slice ao3 n3 Y3,.bool K3,.slice ap3 m3 Z3]) (h1:zac w (qA J1 ao1 n1 Y1 K1 ap1 m1 Z1) a) (h2:zac w (qA J2 ao2 n2 Y2 K2 ap2 m2 Z2) b) (h3:zac w (qA J3 ao3 n3 Y3 K3 ap3 m3 Z3) c):UQ w (some ⟨g,0,none⟩) [some a,some b,some c]:=λ i o hi => by
 match i,hi with
 | 0,hi => cases hi; exact ⟨g,0,J1,ao1,n1,Y1,K1,ap1,m1,Z1,rfl,⟨r.cell (k:=0) (by simp),r.cell (k:=1) (by simp),r.cell (k:=2) (by simp),r.cell (k:=3) (by simp),trivial,trivial,trivial,trivial⟩,h1⟩
 | 1,hi => cases hi; exact ⟨g,0,J2,ao2,n2,Y2,K2,ap2,m2,Z2,rfl,⟨r.cell (k:=4) (by simp),r.cell (k:=5) (by simp),r.cell (k:=6) (by simp),r.cell (k:=7) (by simp),trivial,trivial,trivial,trivial⟩,h2⟩
 | 2,hi => cases hi; exact ⟨g,0,J3,ao3,n3,Y3,K3,ap3,m3,Z3,rfl,⟨r.cell (k:=8) (by simp),r.cell (k:=9) (by simp),r.cell (k:=10) (by simp),r.cell (k:=11) (by simp),trivial,trivial,trivial,trivial⟩,h3⟩
 | i + 3,hi => simp at hi
theorem eu2 {w:World} {g:Nat} {J1:Bool} {ao1:Option Addr} {n1 Y1:Nat} {K1:Bool} {ap1:Option Addr} {m1 Z1:Nat} {J2:Bool} {ao2:Option Addr} {n2 Y2:Nat} {K2:Bool} {ap2:Option Addr} {m2 Z2:Nat} {a b:Rat} (r:Row w g 59 [.int .u16 ((0:Nat):Int),.int .u16 ((0:Nat):Int),.bool J1,.slice ao1 n1 Y1,.bool K1,.slice ap1 m1 Z1,.int .u16 ((0:Nat):Int),.int .u16 ((0:Nat):Int),.bool J2,.slice ao2 n2 Y2,.bool K2,.slice ap2 m2 Z2]) (h1:zac w (qA J1 ao1 n1 Y1 K1 ap1 m1 Z1) a) (h2:zac w (qA J2 ao2 n2 Y2 K2 ap2 m2 Z2) b):EU 6 zck w (some ⟨g,0,none⟩) [((0,0),a),((0,0),b)]:=λ i o hi => by
 match i,hi with
 | 0,hi =>
  cases hi
  refine ⟨g,0,_,rfl,rfl,λ j u hj => ?_,J1,ao1,n1,Y1,K1,ap1,m1,Z1,rfl,h1⟩
  match j,hj with
  | 0,hj => cases hj; exact r.cell (k:=0) (by simp)
  | 1,hj => cases hj; exact r.cell (k:=1) (by simp)
  | 2,hj => cases hj; exact r.cell (k:=2) (by simp)
  | 3,hj => cases hj; exact r.cell (k:=3) (by simp)
  | 4,hj => cases hj; exact r.cell (k:=4) (by simp)
  | 5,hj => cases hj; exact r.cell (k:=5) (by simp)
  | j + 6,hj => simp at hj
 | 1,hi =>
  cases hi
  refine ⟨g,0,_,rfl,rfl,λ j u hj => ?_,J2,ao2,n2,Y2,K2,ap2,m2,Z2,rfl,h2⟩
  match j,hj with
  | 0,hj => cases hj; exact r.cell (k:=6) (by simp)
  | 1,hj => cases hj; exact r.cell (k:=7) (by simp)
  | 2,hj => cases hj; exact r.cell (k:=8) (by simp)
  | 3,hj => cases hj; exact r.cell (k:=9) (by simp)
  | 4,hj => cases hj; exact r.cell (k:=10) (by simp)
  | 5,hj => cases hj; exact r.cell (k:=11) (by simp)
  | j + 6,hj => simp at hj
 | i + 2,hi => simp at hi
theorem eu3 {w:World} {g:Nat} {E:TypeId} {a b c:Nat} (r:Row w g E [.int .i64 (a:Nat),.int .i64 (b:Nat),.int .i64 (c:Nat)]):EU 1 zjw w (some ⟨g,0,none⟩) [a,b,c]:=λ i x hi => by
 match i,hi with
 | 0,hi =>
  cases hi
  refine ⟨g,0,[.int .i64 (a:Nat)],rfl,rfl,λ j u hj => ?_,rfl⟩
  match j,hj with
  | 0,hj => cases hj; exact r.cell (k:=0) (by simp)
  | j + 1,hj => simp at hj
 | 1,hi =>
  cases hi
  refine ⟨g,0,[.int .i64 (b:Nat)],rfl,rfl,λ j u hj => ?_,rfl⟩
  match j,hj with
  | 0,hj => cases hj; exact r.cell (k:=1) (by simp)
  | j + 1,hj => simp at hj
 | 2,hi =>
  cases hi
  refine ⟨g,0,[.int .i64 (c:Nat)],rfl,rfl,λ j u hj => ?_,rfl⟩
  match j,hj with
  | 0,hj => cases hj; exact r.cell (k:=2) (by simp)
  | j + 1,hj => simp at hj
 | i + 3,hi => simp at hi
theorem zhJ (w:World) (hE:Env w) :
  Calls Tryz.prog 8 #[] w λ e w' => e=.returned (.bool true)/\BH w w':=by
 have hbw:=Below.refl w.heap.size w;go_enter func8,ntmps8;go_upto_region 2 with fail;obtain ⟨w1,gF,hw9,hg9,hb,rF⟩:=bxr w [.int .u16 3,.int .u16 5,.int .u16 6] 52;rw [<- hw9,<- hg9];have HgF:Hid (w.heap.size<=gF):=hii (by have:=hbw.size; omega);clear hw9 hg9;have hE:=hE.mono hb;have hbw:=bu hbw hb;clear hb;have uF:zaM w1 (some ⟨gF,0,none⟩) za4:=zoi rF;clear rF;go_wp2_with fail;go_fit (zbo 1 1 w1 (by decide) (by decide) (by decide) (by decide) (hii (by decide)) hE);rintro e w2 ⟨hz,hb⟩;obtain ⟨J1,ao1,n1,Y1,K1,ap1,m1,Z1,rfl,hv1⟩:=hz.rat;have hv1:zac w2 (qA J1 ao1 n1 Y1 K1 ap1 m1 Z1) 1:=hv1;have uF:=uF.mono hb;have hE:=hE.mono hb;have hbw:=bu hbw hb;clear hb;clear hz;go_wp2_with fail;go_fit (zbo 1 1 w2 (by decide) (by decide) (by decide) (by decide) (hii (by decide)) hE);rintro e w3 ⟨hz,hb⟩;obtain ⟨J2,ao2,n2,Y2,K2,ap2,m2,Z2,rfl,hv2⟩:=hz.rat;have hv2:zac w3 (qA J2 ao2 n2 Y2 K2 ap2 m2 Z2) 1:=hv2;have uF:=uF.mono hb;have hE:=hE.mono hb;have hv1:=hv1.mono hb;have hbw:=bu hbw hb;clear hb;clear hz;go_wp2_with fail;go_fit (zbo 1 1 w3 (by decide) (by decide) (by decide) (by decide) (hii (by decide)) hE);rintro e w4 ⟨hz,hb⟩;obtain ⟨J3,ao3,n3,Y3,K3,ap3,m3,Z3,rfl,hv3⟩:=hz.rat;have hv3:zac w4 (qA J3 ao3 n3 Y3 K3 ap3 m3 Z3) 1:=hv3;have uF:=uF.mono hb;have hE:=hE.mono hb;have hv1:=hv1.mono hb;have hv2:=hv2.mono hb;have hbw:=bu hbw hb;clear hb;clear hz;go_upto_region 3 with fail;obtain ⟨w5,gO,hw9,hg9,hb,rO⟩:=bxr w4 [.bool J1,.slice ao1 n1 Y1,.bool K1,.slice ap1 m1 Z1,.bool J2,.slice ao2 n2 Y2,.bool K2,.slice ap2 m2 Z2,.bool J3,.slice ao3 n3 Y3,.bool K3,.slice ap3 m3 Z3] 32;rw [<- hw9,<- hg9];have HgO:Hid (w.heap.size<=gO):=hii (by have:=hbw.size; omega);clear hw9 hg9;have uF:=uF.mono hb;have hE:=hE.mono hb;have hv1:=hv1.mono hb;have hv2:=hv2.mono hb;have hv3:=hv3.mono hb;have hbw:=bu hbw hb;clear hb;have uO:UQ w5 (some ⟨gO,0,none⟩) [some 1,some 1,some 1]:=uq3 rO hv1 hv2 hv3;clear rO hv1 hv2 hv3;go_wp2_with fail;go_fit (zbo 1 2 w5 (by decide) (by decide) (by decide) (by decide) (hii (by decide)) hE);rintro e w6 ⟨hz,hb⟩;obtain ⟨J4,ao4,n4,Y4,K4,ap4,m4,Z4,rfl,hv4⟩:=hz.rat;have hv4:zac w6 (qA J4 ao4 n4 Y4 K4 ap4 m4 Z4) hf:=hv4;have uF:=uF.mono hb;have uO:=uO.mono hb;have hE:=hE.mono hb;have hbw:=bu hbw hb;clear hb;clear hz;have HO:=zea za4 za4 hf [1,1,1] 3 (hii zmo) _ _ (some ⟨gO,0,none⟩) 3 3 3 _ w6 nl nl uF uF hv4 uO hE;rw [show za4.length=3 from rfl,show [(1:Rat),1,1].length=3 from rfl] at HO;go_wp2_with fail;(with_reducible refine HO.mono ?_);rintro e w7 ⟨hOR,hb⟩;have uF:=uF.mono hb;have uO:=uO.mono hb;have hE:=hE.mono hb;have hbw:=bu hbw hb;clear hb;clear HO hv4;obtain ⟨v,ld,Ps,Qs,rfl,hBV,hBal⟩:=hOR;have HBal:=hii hBal;have Hld:=hii (znG hBal);clear hBal;obtain ⟨J5,ao5,n5,Y5,K5,ap5,m5,Z5,aB,cB,aQ,cQ,rfl,hv5,uB,uQ⟩:=hBV;go_upto_region 4 with fail;obtain ⟨w8,g3,hw9,hg9,hb,r3⟩:=bxr w7 [.bool J5,.slice ao5 n5 Y5,.bool K5,.slice ap5 m5 Z5,.slice aB (shs (prs za4 za4) Ps).length cB,.slice aQ Qs.length cQ] 39;rw [<- hw9,<- hg9];have Hg3:Hid (w.heap.size<=g3):=hii (by have:=hbw.size; omega);clear hw9 hg9;have uF:=uF.mono hb;have uO:=uO.mono hb;have uQ:=uQ.mono hb;have uB:=uB.mono zar hb;have hv5:=hv5.mono hb;have hE:=hE.mono hb;have hbw:=bu hbw hb;clear hb;have HB:=zjq za4 3 (some ⟨gF,0,none⟩) 3 w8 (by decide) nl (by decide) (by decide) uF (hii (ziG.s16 (by decide))) hE;rw [show za4.length=3 from rfl] at HB;go_wp2_with fail;(with_reducible refine HB.mono ?_);rintro e w9 ⟨hBP,hb⟩;have uF:=uF.mono hb;have uO:=uO.mono hb;have uQ:=uQ.mono hb;have uB:=uB.mono zar hb;have hv5:=hv5.mono hb;have hE:=hE.mono hb;have r3:=r3.below hb;have hbw:=bu hbw hb;clear hb;clear HB;rcases hBP with ⟨h,-⟩ | ⟨-,J1,ao1,n1,Y1,K1,ap1,m1,Z1,J2,ao2,n2,Y2,K2,ap2,m2,Z2,rfl,hv1,hv2⟩
 case inl => exact absurd zmU h
 have hv1:zac w9 (qA J1 ao1 n1 Y1 K1 ap1 m1 Z1) (Rat.divInt 1 2):=hv1;have hv2:zac w9 (qA J2 ao2 n2 Y2 K2 ap2 m2 Z2) (Rat.divInt 2 3):=hv2;go_upto_region 5 with fail;obtain ⟨wx,hwx,r5,r6,hb⟩:=zaO w9 32 32 [.bool J1,.slice ao1 n1 Y1,.bool K1,.slice ap1 m1 Z1] [.bool J2,.slice ao2 n2 Y2,.bool K2,.slice ap2 m2 Z2];simp only [List.toArray] at hwx;rw [<- hwx];clear hwx;obtain ⟨wA,rfl⟩:=exi wx;obtain ⟨g6,hg6⟩:∃ g,g=w9.heap.size + 1:=⟨_,rfl⟩;rw [<- hg6] at r6 |-;clear hg6;obtain ⟨g5,hg5⟩:∃ g,g=w9.heap.size:=⟨_,rfl⟩;rw [<- hg5] at r5 |-;clear hg5;have uF:=uF.mono hb;have uO:=uO.mono hb;have uQ:=uQ.mono hb;have hv1:=hv1.mono hb;have hv2:=hv2.mono hb;have uB:=uB.mono zar hb;have hv5:=hv5.mono hb;have hE:=hE.mono hb;have r3:=r3.below hb;have hbw:=bu hbw hb;clear hb;go_wp2_with fail;go_fit (zbo 1 2 wA (by decide) (by decide) (by decide) (by decide) (hii (by decide)) hE);rintro e wB ⟨hz,hb⟩;obtain ⟨J3,ao3,n3,Y3,K3,ap3,m3,Z3,rfl,hv3⟩:=hz.rat;have hv3:zac wB (qA J3 ao3 n3 Y3 K3 ap3 m3 Z3) hf:=hv3;have uF:=uF.mono hb;have uO:=uO.mono hb;have uQ:=uQ.mono hb;have hv1:=hv1.mono hb;have hv2:=hv2.mono hb;have uB:=uB.mono zar hb;have hv5:=hv5.mono hb;have hE:=hE.mono hb;have r3:=r3.below hb;have r5:=r5.below hb;have r6:=r6.below hb;have hbw:=bu hbw hb;clear hb;clear hz;go_wp2_with fail;go_fit (zbo 1 2 wB (by decide) (by decide) (by decide) (by decide) (hii (by decide)) hE);rintro e wC ⟨hz,hb⟩;obtain ⟨J4,ao4,n4,Y4,K4,ap4,m4,Z4,rfl,hv4⟩:=hz.rat;have hv4:zac wC (qA J4 ao4 n4 Y4 K4 ap4 m4 Z4) hf:=hv4;have uF:=uF.mono hb;have uO:=uO.mono hb;have uQ:=uQ.mono hb;have hv1:=hv1.mono hb;have hv2:=hv2.mono hb;have hv3:=hv3.mono hb;have uB:=uB.mono zar hb;have hv5:=hv5.mono hb;have hE:=hE.mono hb;have r3:=r3.below hb;have r5:=r5.below hb;have r6:=r6.below hb;have hbw:=bu hbw hb;clear hb;clear hz;go_upto_region 6 with fail;obtain ⟨wD,gS,hw9,hg9,hb,rS⟩:=bxr wC [.int .u16 0,.int .u16 0,.bool J3,.slice ao3 n3 Y3,.bool K3,.slice ap3 m3 Z3,.int .u16 0,.int .u16 0,.bool J4,.slice ao4 n4 Y4,.bool K4,.slice ap4 m4 Z4] 59;rw [<- hw9,<- hg9];have HgS:Hid (w.heap.size<=gS):=hii (by have:=hbw.size; omega);clear hw9 hg9;have uF:=uF.mono hb;have uO:=uO.mono hb;have uQ:=uQ.mono hb;have hv1:=hv1.mono hb;have hv2:=hv2.mono hb;have hv3:=hv3.mono hb;have hv4:=hv4.mono hb;have uB:=uB.mono zar hb;have hv5:=hv5.mono hb;have hE:=hE.mono hb;have r3:=r3.below hb;have r5:=r5.below hb;have r6:=r6.below hb;have hbw:=bu hbw hb;clear hb;have uS:EU 6 zck wD (some ⟨gS,0,none⟩) sh2:=eu2 rS hv3 hv4;have HSc:=zgg sh2 (λ _ => hf) 3 (some ⟨gS,0,none⟩) 2 wD (by decide) (by decide) (by decide) (hii λ i s hs => by
  match i,hs with
  | 0,hs => cases hs; rfl
  | 1,hs => cases hs; rfl
  | i + 2,hs => simp [sh2] at hs) (hii (zlf (D:=2) (M:=1) (by decide) (λ i _ => ⟨1,by decide +kernel,by decide⟩) (by decide))) (hii zmF) uS.shareQ hE
 rw [show sh2.length=2 from rfl,zmy,show ((3:Nat):Int)=3 from rfl] at HSc;go_wp2_with fail;(with_reducible refine HSc.mono ?_);rintro e wE ⟨⟨aI,cI,rfl,uI⟩,hb⟩;have uF:=uF.mono hb;have uO:=uO.mono hb;have uQ:=uQ.mono hb;have hv1:=hv1.mono hb;have hv2:=hv2.mono hb;have uB:=uB.mono zar hb;have hv5:=hv5.mono hb;have hE:=hE.mono hb;have r3:=r3.below hb;have r5:=r5.below hb;have r6:=r6.below hb;have hbw:=bu hbw hb;clear hb;clear HSc uS rS hv3 hv4;have hvL:zac wE (qA J5 ao5 n5 Y5 K5 ap5 m5 Z5) (Rat.divInt 2 3):=by rw [<- Hld.out]; exact hv5
 go_upto_region 7 with fail;obtain ⟨wa,rfl⟩:=exi wE;refine zae (wx:=wa) [vf (.int .i64 0),vf (.bool false),vf (.bool false),vf (.int .i64 0),vf (.bool false),vf (.bool false),vf (.bool false),vf (.int .i64 0),vf (.bool false),vf (.bool false),vf (.bool false),vf (.pointer (some ⟨g3,0,none⟩)),vf (.agg #[.bool J5,.slice ao5 n5 Y5,.bool K5,.slice ap5 m5 Z5]),(λ W v => zac W v (Rat.divInt 2 3)),vf (.bool true),vf (.bool false),vf (.bool false),vf (.bool false),vf (.slice aI 3 cI),(λ W v => ∃ n,v=.slice (some ⟨n,0,none⟩) 3 3/\EU 1 zjw W (some ⟨n,0,none⟩) [0,1,0]),vf (.bool true),vf (.bool false),vf (.bool false)] [40,41,42,43,44,45,46,47,48,49,50,51,52,53,54,55,56,57,58,59,60,61,62] (by kernel_rfl) (by kernel_rfl) (by kernel_rfl) (of_decide_eq_true (by kernel_rfl)) br ⟨sV _,sV _,sV _,sV _,sV _,sV _,sV _,sV _,sV _,sV _,sV _,sV _,sV _,(λ _ _ _ h hb => h.mono hb),sV _,sV _,sV _,sV _,sV _,(λ _ _ _ ⟨n,e,h⟩ hb => ⟨n,e,h.mono zaZ hb⟩),sV _,sV _,sV _,trivial⟩ ⟨?s0,?s1,?s2,?s3,?s4,?s5,?s6,?s7,?s8,?s9,?s10,?s11,?s12,?s13,?s14,?s15,?s16,?s17,?s18,?s19,?s20,?s21,?s22,trivial⟩ ?he
 case' s0 | s1 | s2 | s3 | s4 | s5 | s6 | s7 | s8 | s9 | s10 | s11 | s12 | s13 | s14 | s15 | s16 | s17 | s18 | s19 | s20 | s21 | s22 =>
  rintro T W hb hA K hK
 case' s0 =>
  simp only [sA] at hK |-
 case' s1 =>
  have e0:T 40=_:=hA.1;simp only [sA,e0] at hK |-
 case' s2 =>
  have e1:T 41=_:=hA.1;simp only [sA,e1] at hK |-
 case' s3 =>
  have e2:T 42=_:=hA.1;simp only [sA,e2] at hK |-
 case' s4 =>
  have e3:T 43=_:=hA.1;have e2:T 42=_:=hA.2.1;simp only [sA,e3,e2] at hK |-
 case' s5 =>
  have e2:T 42=_:=hA.1;have e4:T 44=_:=hA.2.1;simp only [sA,e2,e4] at hK |-
 case' s6 =>
  have e5:T 45=_:=hA.1;simp only [sA,e5] at hK |-
 case' s7 =>
  have e6:T 46=_:=hA.1;simp only [sA,e6] at hK |-
 case' s8 =>
  have e7:T 47=_:=hA.1;have e6:T 46=_:=hA.2.1;simp only [sA,e7,e6] at hK |-
 case' s9 =>
  have e6:T 46=_:=hA.1;have e8:T 48=_:=hA.2.1;simp only [sA,e6,e8] at hK |-
 case' s10 =>
  have e9:T 49=_:=hA.1;simp only [sA,e9] at hK |-
 case' s11 =>
  have e10:T 50=_:=hA.1;simp only [sA,e10] at hK |-
 case' s15 =>
  have e14:T 54=_:=hA.1;have e10:T 50=_:=hA.2.1;simp only [sA,e14,e10] at hK |-
 case' s16 =>
  have e10:T 50=_:=hA.1;have e15:T 55=_:=hA.2.1;simp only [sA,e10,e15] at hK |-
 case' s17 =>
  have e16:T 56=_:=hA.1;simp only [sA,e16] at hK |-
 case' s18 =>
  have e17:T 57=_:=hA.1;simp only [sA,e17] at hK |-
 case' s21 =>
  have e20:T 60=_:=hA.1;have e17:T 57=_:=hA.2.1;simp only [sA,e20,e17] at hK |-
 case' s22 =>
  have e17:T 57=_:=hA.1;have e21:T 61=_:=hA.2.1;simp only [sA,e17,e21] at hK |-
 case s0 | s1 | s2 | s3 | s4 | s5 | s6 | s7 | s8 | s9 | s10 | s11 | s15 | s16 | s17 | s18 | s21 | s22 =>
  have HK:=hii hK;clear hK hA;refine wO rfl (by rfl) ?_;go_simp;exact HK.out _ _ br (rfl)
 case s12 =>
  have e11:T 51=_:=hA.1;have e10:T 50=_:=hA.2.1;simp only [sA,e11,e10] at hK |-;have HK:=hii hK;clear hK hA;obtain ⟨y0,y1,y2,y3,y4,y5⟩:=(r3.below hb).n6;refine wO rfl (by rfl) ?_;go_simp;exact HK.out _ _ br (rfl)
 case s13 =>
  have e10:T 50=_:=hA.1;simp only [sA,e10] at hK |-;have HK:=hii hK;clear hK hA;refine wO rfl (by rfl) ?_;go_simp;go_fit (zbo 2 3 W (by decide) (by decide) (by decide) (by decide) (hii (by decide)) (hE.mono hb));rintro e w1 ⟨hz,hb1⟩;obtain ⟨J7,ao7,n7,Y7,K7,ap7,m7,Z7,rfl,hV7⟩:=hz.rat
  try dsimp only
  exact HK.out _ _ hb1 (hV7)
 case s14 =>
  have e12:T 52=_:=hA.1;have r13:(_:World->Value->Prop) W (T 53):=hA.2.1;have e10:T 50=_:=hA.2.2.2.1;simp only [sA,e12,e10] at hK |-;have HK:=hii hK;clear hK hA;have r13:zac W _ (Rat.divInt 2 3):=r13;obtain ⟨J8,ao8,n8,Y8,K8,ap8,m8,Z8,e13⟩:=r13.parts;rw [e13] at r13;simp only [e13] at HK |-;refine wO rfl (by rfl) ?_;go_simp;go_fit (zgH (hvL.mono hb) r13 (hE.mono hb));rintro e w1 ⟨rfl,hb1⟩
  try dsimp only
  exact HK.out _ _ hb1 (rfl)
 case s19 =>
  have e17:T 57=_:=hA.1;simp only [sA,e17] at hK |-;have HK:=hii hK;clear hK hA;refine wO rfl (by rfl) ?_;go_simp;have hb1:=bA W (.cells #[.int .i64 0,.int .i64 1,.int .i64 0] 3);have hrw:Row (W.alloc (.cells #[.int .i64 0,.int .i64 1,.int .i64 0] 3)) W.heap.size 3 [.int .i64 ((0:Nat):Int),.int .i64 ((1:Nat):Int),.int .i64 ((0:Nat):Int)]:=heap_alloc_new _ _;have he3:=eu3 hrw
  try dsimp only
  exact HK.out _ _ hb1 (⟨_,rfl,he3⟩)
 case s20 =>
  have e18:T 58=_:=hA.1;have r19:(_:World->Value->Prop) W (T 59):=hA.2.1;have e17:T 57=_:=hA.2.2.1;simp only [sA,e18,e17] at hK |-;have HK:=hii hK;clear hK hA;obtain ⟨n9,e19,h19⟩:=r19;simp only [e19] at HK |-;refine wO rfl (by rfl) ?_;go_simp;have HQ:=zgl [0,1,0] aI (some ⟨n9,0,none⟩) cI 3 W (by decide) (uI.mono zaZ hb) h19;rw [show ([0,1,0]:List Nat).length=3 from rfl] at HQ;(with_reducible refine HQ.mono ?_);rintro e w1 ⟨rfl,hb1⟩
  try dsimp only
  exact HK.out _ _ hb1 (rfl)
 case he =>
  rintro T W hb hA;have f22:T 62=.bool false:=hA.at 22 (by decide);simp only [sA,f22];have uF:=uF.mono hb;have uO:=uO.mono hb;have uQ:=uQ.mono hb;have hv1:=hv1.mono hb;have hv2:=hv2.mono hb;have uB:=uB.mono zar hb;have hv5:=hv5.mono hb;have hE:=hE.mono hb;have r3:=r3.below hb;have r5:=r5.below hb;have r6:=r6.below hb;have hbw:=bu hbw hb;clear hb;clear hA f22 hvL uI;obtain ⟨wb,rfl⟩:=exi W;go_upto_region 9 with fail;refine zae (wx:=wb) [vf (.agg #[.bool J1,.slice ao1 n1 Y1,.bool K1,.slice ap1 m1 Z1]),(λ W v => zac W v (Rat.divInt 1 2)),vf (.bool true),vf (.bool true),vf (.agg #[.bool J2,.slice ao2 n2 Y2,.bool K2,.slice ap2 m2 Z2]),(λ W v => zac W v (Rat.divInt 2 3)),vf (.bool true),vf (.bool true),vf (.bool true),vf (.slice (some ⟨gF,0,none⟩) 3 3),vf (.slice (some ⟨gF,0,none⟩) 3 3),(λ W v => zac W v (Rat.divInt 1 2)),vf (.slice (some ⟨gO,0,none⟩) 3 3),vf (.agg #[.bool J5,.slice ao5 n5 Y5,.bool K5,.slice ap5 m5 Z5,.slice aB (shs (prs za4 za4) Ps).length cB,.slice aQ Qs.length cQ]),vf (.bool true),vf (.bool true),vf (.bool true)] [63,64,65,66,67,68,69,70,71,72,73,74,75,76,77,78,0] (by kernel_rfl) (by kernel_rfl) (by kernel_rfl) (of_decide_eq_true (by kernel_rfl)) br ⟨sV _,(λ _ _ _ h hb => h.mono hb),sV _,sV _,sV _,(λ _ _ _ h hb => h.mono hb),sV _,sV _,sV _,sV _,sV _,(λ _ _ _ h hb => h.mono hb),sV _,sV _,sV _,sV _,sV _,trivial⟩ ⟨?s0,?s1,?s2,?s3,?s4,?s5,?s6,?s7,?s8,?s9,?s10,?s11,?s12,?s13,?s14,?s15,?s16,trivial⟩ ?he
  case' s0 | s1 | s2 | s3 | s4 | s5 | s6 | s7 | s8 | s9 | s10 | s11 | s12 | s13 | s14 | s15 | s16 =>
   rintro T W hb hA K hK
  case' s0 =>
   simp only [sA] at hK |-;have HK:=hii hK;clear hK hA;obtain ⟨k0,k1,k2,k3⟩:=(r5.below hb).n4
  case' s4 =>
   have e3:T 66=_:=hA.1;simp only [sA,e3] at hK |-;have HK:=hii hK;clear hK hA;obtain ⟨k0,k1,k2,k3⟩:=(r6.below hb).n4
  case' s13 =>
   have e8:T 71=_:=hA.1;simp only [sA,e8] at hK |-;have HK:=hii hK;clear hK hA;obtain ⟨y0,y1,y2,y3,y4,y5⟩:=(r3.below hb).n6
  case' s1 =>
   simp only [sA] at hK |-
  case' s9 | s10 | s11 | s12 =>
   have e8:T 71=_:=hA.1;simp only [sA,e8] at hK |-
  case' s3 =>
   have e2:T 65=_:=hA.1;simp only [sA,e2] at hK |-
  case' s7 =>
   have e3:T 66=_:=hA.1;have e6:T 69=_:=hA.2.1;simp only [sA,e3,e6] at hK |-
  case' s8 =>
   have e7:T 70=_:=hA.1;simp only [sA,e7] at hK |-
  case' s15 =>
   have e8:T 71=_:=hA.1;have e14:T 77=_:=hA.2.1;simp only [sA,e8,e14] at hK |-
  case' s16 =>
   have e15:T 78=_:=hA.1;simp only [sA,e15] at hK |-
  case s0 | s4 | s13 =>
   refine wO rfl (by rfl) ?_;go_simp;exact HK.out _ _ br (rfl)
  case s1 | s11 =>
   have HK:=hii hK;clear hK hA;refine wO rfl (by rfl) ?_;go_simp;go_fit (zbo 1 2 W (by decide) (by decide) (by decide) (by decide) (hii (by decide)) (hE.mono hb));rintro e w1 ⟨hz,hb1⟩;obtain ⟨J7,ao7,n7,Y7,K7,ap7,m7,Z7,rfl,hV7⟩:=hz.rat
   try dsimp only
   exact HK.out _ _ hb1 (hV7)
  case s3 | s7 | s8 | s9 | s10 | s12 | s15 | s16 =>
   have HK:=hii hK;clear hK hA;refine wO rfl (by rfl) ?_;go_simp;exact HK.out _ _ br (rfl)
  case s2 =>
   have e0:T 63=_:=hA.1;have r1:(_:World->Value->Prop) W (T 64):=hA.2.1;simp only [sA,e0] at hK |-;have HK:=hii hK;clear hK hA;have r1:zac W _ (Rat.divInt 1 2):=r1;obtain ⟨J8,ao8,n8,Y8,K8,ap8,m8,Z8,e1⟩:=r1.parts;rw [e1] at r1;simp only [e1] at HK |-;refine wO rfl (by rfl) ?_;go_simp;go_fit (zgH (hv1.mono hb) r1 (hE.mono hb));rintro e w1 ⟨rfl,hb1⟩
   try dsimp only
   exact HK.out _ _ hb1 (rfl)
  case s5 =>
   have e3:T 66=_:=hA.1;simp only [sA,e3] at hK |-;have HK:=hii hK;clear hK hA;refine wO rfl (by rfl) ?_;go_simp;go_fit (zbo 2 3 W (by decide) (by decide) (by decide) (by decide) (hii (by decide)) (hE.mono hb));rintro e w1 ⟨hz,hb1⟩;obtain ⟨J7,ao7,n7,Y7,K7,ap7,m7,Z7,rfl,hV7⟩:=hz.rat
   try dsimp only
   exact HK.out _ _ hb1 (hV7)
  case s6 =>
   have e4:T 67=_:=hA.1;have r5:(_:World->Value->Prop) W (T 68):=hA.2.1;have e3:T 66=_:=hA.2.2.2.1;simp only [sA,e4,e3] at hK |-;have HK:=hii hK;clear hK hA;have r5:zac W _ (Rat.divInt 2 3):=r5;obtain ⟨J8,ao8,n8,Y8,K8,ap8,m8,Z8,e5⟩:=r5.parts;rw [e5] at r5;simp only [e5] at HK |-;refine wO rfl (by rfl) ?_;go_simp;go_fit (zgH (hv2.mono hb) r5 (hE.mono hb));rintro e w1 ⟨rfl,hb1⟩
   try dsimp only
   exact HK.out _ _ hb1 (rfl)
  case s14 =>
   have e9:T 72=_:=hA.1;have e10:T 73=_:=hA.2.1;have r11:(_:World->Value->Prop) W (T 74):=hA.2.2.1;have e12:T 75=_:=hA.2.2.2.1;have e13:T 76=_:=hA.2.2.2.2.1;have e8:T 71=_:=hA.2.2.2.2.2.2.1;simp only [sA,e9,e10,e12,e13,e8] at hK |-;have HK:=hii hK;clear hK hA;have r11:zac W _ (Rat.divInt 1 2):=r11;obtain ⟨J8,ao8,n8,Y8,K8,ap8,m8,Z8,e11⟩:=r11.parts;rw [e11] at r11;simp only [e11] at HK |-;refine wO rfl (by rfl) ?_;go_simp;have HC:=zkA za4 za4 hf [1,1,1] 3 (hii zmo) _ _ (some ⟨gO,0,none⟩) 3 3 3 _ _ ld Ps Qs HBal W nl nl (uF.mono hb) (uF.mono hb) r11 (uO.mono hb) ⟨_,_,_,_,_,_,_,_,aB,cB,aQ,cQ,rfl,hv5.mono hb,uB.mono zar hb,uQ.mono hb⟩ (hE.mono hb);rw [show za4.length=3 from rfl,show [(1:Rat),1,1].length=3 from rfl] at HC;(with_reducible refine HC.mono ?_);rintro e w1 ⟨rfl,hb1⟩
   try dsimp only
   exact HK.out _ _ hb1 (rfl)
  case he =>
   rintro T W hb hA;have f16:T 0=.bool true:=hA.at 16 (by decide);simp only [sA,f16];have hbw:=bu hbw hb;clear hA f16 hb;go_wp2;go_ret;exact ⟨rfl,hbw⟩
end Go.Proofs.YtfgffkmddanjjaaGreatDoor
