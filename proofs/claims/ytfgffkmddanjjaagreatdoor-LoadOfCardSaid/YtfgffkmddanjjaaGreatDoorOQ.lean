/-
  Texts of fractions, plain.
-/
import Derived.Test.YtfgffkmddanjjaaGreatDoorQ5
import Derived.Test.YtfgffkmddanjjaaGreatDoorI8
import Derived.Lib.IndexMore
set_option linter.unusedVariables false
set_option linter.unusedSimpArgs false
set_option maxRecDepth 100000
set_option maxHeartbeats 25600000
namespace Go.Proofs.YtfgffkmddanjjaaGreatDoor
open _root_.Go.Proofs.Tryz
open Go.RowKit
variable {e:Ending} {l:LN} {xs:List Vl} {g k:Nat} {G:Nat->Prop} {ao:OA} {p v x0 x1 x2 x3:Vl} {W w':Wo}
def zpY(w':Wo)(x y z k:Int)(e:Ending):Prop :=
 ∃(n1:Bool)(a1:OA)(l1 c1:Nat)(n2:Bool)(a2:OA)(l2 c2:Nat)(n3:Bool)(a3:OA)(l3 c3:Nat),
  e=.returned (.tuple #[.agg #[.bool n1,.slice a1 l1 c1],.agg #[.bool n2,.slice a2 l2 c2],.agg #[.bool n3,.slice a3 l3 c3],.int .i64 k]) /\
  Hid (zai w' (.agg #[.bool n1,.slice a1 l1 c1]) x)/\Hid (zai w' (.agg #[.bool n2,.slice a2 l2 c2]) y)/\Hid (zai w' (.agg #[.bool n3,.slice a3 l3 c3]) z)
def CrP(k k3:Int)(a b:Rat)(w':Wo)(e:Ending):Prop:=∃z,zpY w' (zk k (a.num*b.den)) (zk k (b.num*a.den)) z k e/\(k=0->z=zk k3 ((a.den:Int)*(b.den:Int)))
theorem zg6(va vb:Vl)(a b:Rat)(k k3:Int)(w:Wo)(ha:zad w va a)(hb:zad w vb b)(hs:Hid (KQ k (CrS a b)))(hd:Hid (KQ k3 (Rq.Sm ((a.den:Int)*(b.den:Int)))))(hE:Env w) :
  CP 53 #[va,vb] w λe w'=>CrP k k3 a b w' e/\BH w w':=by
 obtain⟨k1,h_k1⟩:=KQ.ex (Rq.Sm (a.num*(b.den:Int)));have H_k1:=hii h_k1;clear h_k1;obtain⟨k2,h_k2⟩:=KQ.ex (Rq.Sm (b.num*(a.den:Int)));have H_k2:=hii h_k2;clear h_k2;have H_k3:=hd;have hbw:=Below.refl w.heap.size w;obtain⟨J1,ao1,n1,Y1,J2,ao2,n2,Y2,rfl,h1,h2⟩:=ha;have HV1:=hii h1;have HV2:=hii h2;clear h1 h2;obtain⟨J3,ao3,n3,Y3,J4,ao4,n4,Y4,rfl,h1,h2⟩:=hb;have HV3:=hii h1;have HV4:=hii h2;clear h1 h2;go_enter func53,ntmps53;go_upto_region 1 with fail;obtain⟨wx,hwx,hszx,X1,X2,X3,X4,X8,hb⟩:=zg9 w (.bool J1) (.slice ao1 n1 Y1) (.bool J2) (.slice ao2 n2 Y2) 32 (.bool J3) (.slice ao3 n3 Y3) (.bool J4) (.slice ao4 n4 Y4) 32 bF_ nS_ 30 bF_ nS_ 30 bF_ nS_ 30;rw[<-hwx];clear hwx;obtain⟨v1,rfl⟩:=exi wx;have HV1:=hup HV1 hb;have HV2:=hup HV2 hb;have HV3:=hup HV3 hb;have HV4:=hup HV4 hb;have hE:=hE.mono hb;have hbw:=bu hbw hb;clear hb;obtain⟨x1a,x1b,x1c,x1d,_,_,_,_⟩:=id X1;go_wp2_with fail;go_fit (zaS _ a v1 (zad.mk' HV1 HV2) hE);rintro e v2⟨rfl,hb⟩;have HV1:=hup HV1 hb;have HV2:=hup HV2 hb;have HV3:=hup HV3 hb;have HV4:=hup HV4 hb;have X1:=X1.mono hb;have X2:=X2.mono hb;have X3:=X3.mono hb;have X4:=X4.mono hb;have X8:=X8.mono hb;have hE:=hE.mono hb;have hbw:=bu hbw hb;clear hb;clear x1a x1b x1c x1d;obtain⟨x2a,x2b,x2c,x2d,_,_,_,_⟩:=id X2;go_wp2_with fail;go_fit (zaS _ b v2 (zad.mk' HV3 HV4) hE);rintro e v3⟨rfl,hb⟩;have HV1:=hup HV1 hb;have HV2:=hup HV2 hb;have HV3:=hup HV3 hb;have HV4:=hup HV4 hb;have X1:=X1.mono hb;have X2:=X2.mono hb;have X3:=X3.mono hb;have X4:=X4.mono hb;have X8:=X8.mono hb;have hE:=hE.mono hb;have hbw:=bu hbw hb;clear hb;clear x2a x2b x2c x2d;obtain⟨x1a,x1b,x1c,x1d,_,_,_,_⟩:=id X1;obtain⟨x2a,x2b,x2c,x2d,_,_,_,_⟩:=id X2;go_wp2_with fail;go_fit (zcD _ _ a.num (b.den:Int) k1 v3 HV1.o HV4.o H_k1 hE);rintro e v4⟨⟨J5,ao5,n5,Y5,rfl,HV5⟩,hb⟩;have HV2:=hup HV2 hb;have HV3:=hup HV3 hb;have HV4:=hup HV4 hb;have X1:=X1.mono hb;have X2:=X2.mono hb;have X3:=X3.mono hb;have X4:=X4.mono hb;have X8:=X8.mono hb;have hE:=hE.mono hb;have hbw:=bu hbw hb;clear hb;clear x1a x1b x1c x1d x2a x2b x2c x2d;go_upto_region 4 with fail;have lX5X1:=X1.lt;have lX5X2:=X2.lt;have lX5X3:=X3.lt;have lX5X4:=X4.lt;have lX5X8:=X8.lt;have X5:=Box.new v4 (.bool J5) (.slice ao5 n5 Y5) 30;have hb:=bA v4 (.cells #[.bool J5,.slice ao5 n5 Y5] 30);generalize v4.alloc (.cells #[.bool J5,.slice ao5 n5 Y5] 30)=v5 at*;have HV2:=hup HV2 hb;have HV3:=hup HV3 hb;have HV4:=hup HV4 hb;have X1:=X1.mono hb;have X2:=X2.mono hb;have X3:=X3.mono hb;have X4:=X4.mono hb;have X8:=X8.mono hb;have HV5:=hup HV5 hb;have hE:=hE.mono hb;have hbw:=bu hbw hb;clear hb;obtain⟨x1a,x1b,x1c,x1d,_,_,_,_⟩:=id X1;obtain⟨x2a,x2b,x2c,x2d,_,_,_,_⟩:=id X2;go_wp2_with fail;go_fit (zcD _ _ b.num (a.den:Int) k2 v5 HV3.o HV2.o H_k2 hE);rintro e v6⟨⟨J6,ao6,n6,Y6,rfl,HV6⟩,hb⟩;have HV2:=hup HV2 hb;have HV4:=hup HV4 hb;have X1:=X1.mono hb;have X2:=X2.mono hb;have X3:=X3.mono hb;have X4:=X4.mono hb;have X8:=X8.mono hb;have HV5:=hup HV5 hb;have X5:=X5.mono hb;have hE:=hE.mono hb;have hbw:=bu hbw hb;clear hb;clear x1a x1b x1c x1d x2a x2b x2c x2d;go_upto_region 5 with fail;have lX6X1:=X1.lt;have lX6X2:=X2.lt;have lX6X3:=X3.lt;have lX6X4:=X4.lt;have lX6X8:=X8.lt;have lX6X5:=X5.lt;have X6:=Box.new v6 (.bool J6) (.slice ao6 n6 Y6) 30;have hb:=bA v6 (.cells #[.bool J6,.slice ao6 n6 Y6] 30);generalize v6.alloc (.cells #[.bool J6,.slice ao6 n6 Y6] 30)=v7 at*;have HV2:=hup HV2 hb;have HV4:=hup HV4 hb;have X1:=X1.mono hb;have X2:=X2.mono hb;have X3:=X3.mono hb;have X4:=X4.mono hb;have X8:=X8.mono hb;have HV5:=hup HV5 hb;have X5:=X5.mono hb;have HV6:=hup HV6 hb;have hE:=hE.mono hb;have hbw:=bu hbw hb;clear hb;obtain⟨x1a,x1b,x1c,x1d,_,_,_,_⟩:=id X1;obtain⟨x2a,x2b,x2c,x2d,_,_,_,_⟩:=id X2;go_wp2_with fail;go_fit (zcD _ _ (a.den:Int) (b.den:Int) k3 v7 HV2.o HV4.o H_k3 hE);rintro e v8⟨⟨J7,ao7,n7,Y7,rfl,HV7⟩,hb⟩;have X1:=X1.mono hb;have X2:=X2.mono hb;have X3:=X3.mono hb;have X4:=X4.mono hb;have X8:=X8.mono hb;have HV5:=hup HV5 hb;have X5:=X5.mono hb;have HV6:=hup HV6 hb;have X6:=X6.mono hb;have hbw:=bu hbw hb;clear hb;clear x1a x1b x1c x1d x2a x2b x2c x2d;go_upto_region 6 with fail;have lX7X1:=X1.lt;have lX7X2:=X2.lt;have lX7X3:=X3.lt;have lX7X4:=X4.lt;have lX7X8:=X8.lt;have lX7X5:=X5.lt;have lX7X6:=X6.lt;have X7:=Box.new v8 (.bool J7) (.slice ao7 n7 Y7) 30;have hb:=bA v8 (.cells #[.bool J7,.slice ao7 n7 Y7] 30);generalize v8.alloc (.cells #[.bool J7,.slice ao7 n7 Y7] 30)=v9 at*;have X3:=X3.mono hb;have X4:=X4.mono hb;have X8:=X8.mono hb;have HV5:=hup HV5 hb;have X5:=X5.mono hb;have HV6:=hup HV6 hb;have X6:=X6.mono hb;have HV7:=hup HV7 hb;have hbw:=bu hbw hb;clear hb;rcases H_k1.o with⟨rfl,h_k1⟩|⟨rfl,h_k1⟩
 ·have G_k1:=hii h_k1;clear h_k1;rw[zbB]at HV5;rcases H_k2.o with⟨rfl,h_k2⟩|⟨rfl,h_k2⟩
  ·have G_k2:=hii h_k2;clear h_k2;rw[zbB]at HV6;obtain rfl:k=0:=hs.o.yes ⟨G_k1.o,G_k2.o⟩;rcases H_k3.o with⟨rfl,h_k3⟩|⟨rfl,h_k3⟩
   ·have G_k3:=hii h_k3;clear h_k3;rw[zbB]at HV7;go_upto_region 10 with fail;obtain⟨wy,rfl⟩:=exi v9;obtain⟨x5a,x5b,_,_⟩:=id X5;obtain⟨x6a,x6b,_,_⟩:=id X6;obtain⟨x7a,x7b,_,_⟩:=id X7;obtain⟨x3a,x3b,_,_⟩:=id X3;obtain⟨x4a,x4b,_,_⟩:=id X4;obtain⟨x8a,x8b,_,_⟩:=id X8;go_region_with fail
    all_goals
     go_wp2;exact bodyPost_ret (v:=.tuple #[.agg #[.bool J5,.slice ao5 n5 Y5],.agg #[.bool J6,.slice ao6 n6 Y6],.agg #[.bool J7,.slice ao7 n7 Y7],.int .i64 0]) (by simp[results,Tryz.results53,go_sem,x3a,x3b,x4a,x4b,x8a,x8b]) rfl ⟨⟨((a.den:Int)*(b.den:Int)),⟨J5,ao5,n5,Y5,J6,ao6,n6,Y6,J7,ao7,n7,Y7,rfl,(by rw[zbB];exact hii ((((HV5.o.put2B X3 (.bool J5) (.slice ao5 n5 Y5)).put2B (X4.other2 oM) (.bool J6) (.slice ao6 n6 Y6)).put2B ((X8.other2 oM).other2 oM) (.bool J7) (.slice ao7 n7 Y7)).mono (Below.drew br))),(by rw[zbB];exact hii ((((HV6.o.put2B X3 (.bool J5) (.slice ao5 n5 Y5)).put2B (X4.other2 oM) (.bool J6) (.slice ao6 n6 Y6)).put2B ((X8.other2 oM).other2 oM) (.bool J7) (.slice ao7 n7 Y7)).mono (Below.drew br))),(by exact hii ((((HV7.o.put2B X3 (.bool J5) (.slice ao5 n5 Y5)).put2B (X4.other2 oM) (.bool J6) (.slice ao6 n6 Y6)).put2B ((X8.other2 oM).other2 oM) (.bool J7) (.slice ao7 n7 Y7)).mono (Below.drew br)))⟩,λ_=>(zbB _).symm⟩,(Below.put2 (Below.put2 (Below.put2 hbw oM (.bool J5) (.slice ao5 n5 Y5)) oM (.bool J6) (.slice ao6 n6 Y6)) oM (.bool J7) (.slice ao7 n7 Y7)).drew⟩
   ·have G_k3:=hii h_k3;clear h_k3;go_upto_region 9 with fail;obtain⟨wy,rfl⟩:=exi v9;obtain⟨x5a,x5b,_,_⟩:=id X5;obtain⟨x6a,x6b,_,_⟩:=id X6;obtain⟨x7a,x7b,_,_⟩:=id X7;obtain⟨x3a,x3b,_,_⟩:=id X3;obtain⟨x4a,x4b,_,_⟩:=id X4;obtain⟨x8a,x8b,_,_⟩:=id X8;go_region_with fail
    all_goals
     go_wp2;exact bodyPost_ret (v:=.tuple #[.agg #[.bool J5,.slice ao5 n5 Y5],.agg #[.bool J6,.slice ao6 n6 Y6],.agg #[bF_,nS_],.int .i64 0]) (by simp[results,Tryz.results53,go_sem,x3a,x3b,x4a,x4b,x8a,x8b]) rfl ⟨⟨0,⟨J5,ao5,n5,Y5,J6,ao6,n6,Y6,false,none,0,0,rfl,(by rw[zbB];exact hii ((((HV5.o.put2B X3 (.bool J5) (.slice ao5 n5 Y5)).put2B (X4.other2 oM) (.bool J6) (.slice ao6 n6 Y6)).put2B ((X8.other2 oM).other2 oM) bF_ nS_).mono (Below.drew br))),(by rw[zbB];exact hii ((((HV6.o.put2B X3 (.bool J5) (.slice ao5 n5 Y5)).put2B (X4.other2 oM) (.bool J6) (.slice ao6 n6 Y6)).put2B ((X8.other2 oM).other2 oM) bF_ nS_).mono (Below.drew br))),(by exact hii (((((zai.zero wy).put2B X3 (.bool J5) (.slice ao5 n5 Y5)).put2B (X4.other2 oM) (.bool J6) (.slice ao6 n6 Y6)).put2B ((X8.other2 oM).other2 oM) bF_ nS_).mono (Below.drew br)))⟩,λ_=>(zfw _).symm⟩,(Below.put2 (Below.put2 (Below.put2 hbw oM (.bool J5) (.slice ao5 n5 Y5)) oM (.bool J6) (.slice ao6 n6 Y6)) oM bF_ nS_).drew⟩
  ·have G_k2:=hii h_k2;clear h_k2;obtain rfl:k=3:=hs.o.no (λh=>G_k2.o h.2);go_upto_region 7 with fail;obtain⟨wy,rfl⟩:=exi v9;obtain⟨x5a,x5b,_,_⟩:=id X5;obtain⟨x6a,x6b,_,_⟩:=id X6;obtain⟨x7a,x7b,_,_⟩:=id X7;obtain⟨x3a,x3b,_,_⟩:=id X3;obtain⟨x4a,x4b,_,_⟩:=id X4;obtain⟨x8a,x8b,_,_⟩:=id X8;go_region_with fail
   all_goals
    go_wp2;exact bodyPost_ret (v:=.tuple #[.agg #[bF_,nS_],.agg #[bF_,nS_],.agg #[.bool J7,.slice ao7 n7 Y7],.int .i64 3]) (by simp[results,Tryz.results53,go_sem,x3a,x3b,x4a,x4b,x8a,x8b]) rfl ⟨⟨zk k3 ((a.den:Int)*(b.den:Int)),⟨false,none,0,0,false,none,0,0,J7,ao7,n7,Y7,rfl,(by rw[zfw];exact hii (((((zai.zero wy).put2B X3 bF_ nS_).put2B (X4.other2 oM) bF_ nS_).put2B ((X8.other2 oM).other2 oM) (.bool J7) (.slice ao7 n7 Y7)).mono (Below.drew br))),(by rw[zfw];exact hii (((((zai.zero wy).put2B X3 bF_ nS_).put2B (X4.other2 oM) bF_ nS_).put2B ((X8.other2 oM).other2 oM) (.bool J7) (.slice ao7 n7 Y7)).mono (Below.drew br))),(by exact hii ((((HV7.o.put2B X3 bF_ nS_).put2B (X4.other2 oM) bF_ nS_).put2B ((X8.other2 oM).other2 oM) (.bool J7) (.slice ao7 n7 Y7)).mono (Below.drew br)))⟩,λh=>absurd h dM⟩,(Below.put2 (Below.put2 (Below.put2 hbw oM bF_ nS_) oM bF_ nS_) oM (.bool J7) (.slice ao7 n7 Y7)).drew⟩
 ·have G_k1:=hii h_k1;clear h_k1;obtain rfl:k=3:=hs.o.no (λh=>G_k1.o h.1);go_upto_region 7 with fail;obtain⟨wy,rfl⟩:=exi v9;obtain⟨x5a,x5b,_,_⟩:=id X5;obtain⟨x6a,x6b,_,_⟩:=id X6;obtain⟨x7a,x7b,_,_⟩:=id X7;obtain⟨x3a,x3b,_,_⟩:=id X3;obtain⟨x4a,x4b,_,_⟩:=id X4;obtain⟨x8a,x8b,_,_⟩:=id X8;go_region_with fail
  all_goals
   go_wp2;exact bodyPost_ret (v:=.tuple #[.agg #[bF_,nS_],.agg #[bF_,nS_],.agg #[.bool J7,.slice ao7 n7 Y7],.int .i64 3]) (by simp[results,Tryz.results53,go_sem,x3a,x3b,x4a,x4b,x8a,x8b]) rfl ⟨⟨zk k3 ((a.den:Int)*(b.den:Int)),⟨false,none,0,0,false,none,0,0,J7,ao7,n7,Y7,rfl,(by rw[zfw];exact hii (((((zai.zero wy).put2B X3 bF_ nS_).put2B (X4.other2 oM) bF_ nS_).put2B ((X8.other2 oM).other2 oM) (.bool J7) (.slice ao7 n7 Y7)).mono (Below.drew br))),(by rw[zfw];exact hii (((((zai.zero wy).put2B X3 bF_ nS_).put2B (X4.other2 oM) bF_ nS_).put2B ((X8.other2 oM).other2 oM) (.bool J7) (.slice ao7 n7 Y7)).mono (Below.drew br))),(by exact hii ((((HV7.o.put2B X3 bF_ nS_).put2B (X4.other2 oM) bF_ nS_).put2B ((X8.other2 oM).other2 oM) (.bool J7) (.slice ao7 n7 Y7)).mono (Below.drew br)))⟩,λh=>absurd h dM⟩,(Below.put2 (Below.put2 (Below.put2 hbw oM bF_ nS_) oM bF_ nS_) oM (.bool J7) (.slice ao7 n7 Y7)).drew⟩
theorem zn0(va vb:Vl)(a b:Rat)(k:Int)(w:Wo)(ha:zad w va a)(hb:zad w vb b)(hs:Hid (KQ k (CrS a b)))(hE:Env w) :
  CP 20 #[va,vb] w λe w'=>e=.returned (.tuple #[.int .i64 (zk k (Rq.cmpQ a b)),.int .i64 k])/\BH w w':=by
 obtain⟨k3,h_k3⟩:=KQ.ex (Rq.Sm ((a.den:Int)*(b.den:Int)));have H_k3:=hii h_k3;clear h_k3;have hbw:=Below.refl w.heap.size w;obtain⟨J1,ao1,n1,Y1,J2,ao2,n2,Y2,rfl,h1,h2⟩:=ha;have HV1:=hii h1;have HV2:=hii h2;clear h1 h2;obtain⟨J3,ao3,n3,Y3,J4,ao4,n4,Y4,rfl,h1,h2⟩:=hb;have HV3:=hii h1;have HV4:=hii h2;clear h1 h2;go_enter func20,ntmps20;go_upto_region 1 with fail;obtain⟨wx,hwx,hszx,X1,X2,hb⟩:=zc6 w (.bool J1) (.slice ao1 n1 Y1) (.bool J2) (.slice ao2 n2 Y2) 32 (.bool J3) (.slice ao3 n3 Y3) (.bool J4) (.slice ao4 n4 Y4) 32;rw[<-hwx];clear hwx;obtain⟨v1,rfl⟩:=exi wx;have HV1:=hup HV1 hb;have HV2:=hup HV2 hb;have HV3:=hup HV3 hb;have HV4:=hup HV4 hb;have hE:=hE.mono hb;have hbw:=bu hbw hb;clear hb;obtain⟨x1a,x1b,x1c,x1d,_,_,_,_⟩:=id X1;obtain⟨x2a,x2b,x2c,x2d,_,_,_,_⟩:=id X2;go_wp2_with fail;go_fit (zg6 _ _ a b k k3 v1 (zad.mk' HV1 HV2) (zad.mk' HV3 HV4) hs H_k3 hE);rintro e v2⟨⟨z7,⟨J5,ao5,n5,Y5,J6,ao6,n6,Y6,J7,ao7,n7,Y7,rfl,HV5,HV6,HV7⟩,hz7⟩,hb⟩;have X1:=X1.mono hb;have X2:=X2.mono hb;have hbw:=bu hbw hb;clear hb;clear x1a x1b x1c x1d x2a x2b x2c x2d;have Hz7:=hii hz7;clear hz7;go_upto_region 2 with fail;have lX5X1:=X1.lt;have lX5X2:=X2.lt;obtain⟨wx,hwx,hszx,X5,X6,X7,hb⟩:=zd2 v2 (.bool J5) (.slice ao5 n5 Y5) 30 (.bool J6) (.slice ao6 n6 Y6) 30 (.bool J7) (.slice ao7 n7 Y7) 30;rw[<-hwx];clear hwx;obtain⟨v3,rfl⟩:=exi wx;have HV5:=hup HV5 hb;have HV6:=hup HV6 hb;have hbw:=bu hbw hb;clear hb;have H_k:=hs;rcases H_k.o with⟨rfl,h_k⟩|⟨rfl,h_k⟩
 ·have G_k:=hii h_k;clear h_k;rw[zbB]at HV5;rw[zbB]at HV6;obtain⟨x5a,x5b,_,_⟩:=id X5;obtain⟨x6a,x6b,_,_⟩:=id X6;go_wp2_with fail;go_fit (zmz _ _ (a.num*(b.den:Int)) (b.num*(a.den:Int)) (Rq.cmpQ a b) v3 (hii (by unfold zdr;exact Rq.cmp_eq a b)) HV5.o HV6.o);rintro e v4⟨rfl,hb⟩;have hbw:=bu hbw hb;clear hb;clear x5a x5b x6a x6b;go_wp2;go_ret2;exact⟨rfl,hbw⟩
 ·have G_k:=hii h_k;clear h_k;go_wp2;go_ret2;exact⟨rfl,hbw⟩
theorem zlR(va vb:Vl)(a b:Rat)(w:Wo)(ha:zad w va a)(hb:zad w vb b)(hs:Hid (CrS a b))(hE:Env w) :
  CP 20 #[va,vb] w λe w'=>e=.returned (.tuple #[.int .i64 (Rq.cmpQ a b),.int .i64 0])/\BH w w':=zn0 va vb a b 0 w ha hb (hii (.inl ⟨rfl,hs.o⟩)) hE
theorem zi6(va vb:Vl)(a b:Rat)(k:Int)(w:Wo)(ha:zad w va a)(hb:zad w vb b)(hs:Hid (KQ k (zcI a b)))(hE:Env w) :
  CP 52 #[va,vb,bF_] w λe w'=>PK k (a+b) w' e/\BH w w':=by
 obtain⟨k1,h_k1⟩:=KQ.ex (CrS a b);have H_k1:=hii h_k1;clear h_k1;obtain⟨k2,h_k2⟩:=KQ.ex (Rq.Sm ((a.num*(b.den:Int))+(b.num*(a.den:Int))));have H_k2:=hii h_k2;clear h_k2;obtain⟨k3,h_k3⟩:=KQ.ex (Rq.Sm ((a.den:Int)*(b.den:Int)));have H_k3:=hii h_k3;clear h_k3;have hbw:=Below.refl w.heap.size w;obtain⟨J1,ao1,n1,Y1,J2,ao2,n2,Y2,rfl,h1,h2⟩:=ha;have HV1:=hii h1;have HV2:=hii h2;clear h1 h2;obtain⟨J3,ao3,n3,Y3,J4,ao4,n4,Y4,rfl,h1,h2⟩:=hb;have HV3:=hii h1;have HV4:=hii h2;clear h1 h2;go_enter func52,ntmps52;go_upto_region 1 with fail;obtain⟨wx,hwx,hszx,X1,X2,X3,hb⟩:=za1 w (.bool J1) (.slice ao1 n1 Y1) (.bool J2) (.slice ao2 n2 Y2) 32 (.bool J3) (.slice ao3 n3 Y3) (.bool J4) (.slice ao4 n4 Y4) 32 bF_ nS_ bF_ nS_ 32;rw[<-hwx];clear hwx;obtain⟨v1,rfl⟩:=exi wx;have HV1:=hup HV1 hb;have HV2:=hup HV2 hb;have HV3:=hup HV3 hb;have HV4:=hup HV4 hb;have hE:=hE.mono hb;have hbw:=bu hbw hb;clear hb;obtain⟨x1a,x1b,x1c,x1d,_,_,_,_⟩:=id X1;obtain⟨x2a,x2b,x2c,x2d,_,_,_,_⟩:=id X2;go_wp2_with fail;go_fit (zg6 _ _ a b k1 k3 v1 (zad.mk' HV1 HV2) (zad.mk' HV3 HV4) H_k1 H_k3 hE);rintro e v2⟨⟨z7,⟨J5,ao5,n5,Y5,J6,ao6,n6,Y6,J7,ao7,n7,Y7,rfl,HV5,HV6,HV7⟩,hz7⟩,hb⟩;have X1:=X1.mono hb;have X2:=X2.mono hb;have X3:=X3.mono hb;have hE:=hE.mono hb;have hbw:=bu hbw hb;clear hb;clear x1a x1b x1c x1d x2a x2b x2c x2d;have Hz7:=hii hz7;clear hz7;go_upto_region 2 with fail;have lX5X1:=X1.lt;have lX5X2:=X2.lt;have lX5X3:=X3.lt;obtain⟨wx,hwx,hszx,X5,X6,X7,hb⟩:=zd2 v2 (.bool J5) (.slice ao5 n5 Y5) 30 (.bool J6) (.slice ao6 n6 Y6) 30 (.bool J7) (.slice ao7 n7 Y7) 30;rw[<-hwx];clear hwx;obtain⟨v3,rfl⟩:=exi wx;have X1:=X1.mono hb;have X2:=X2.mono hb;have X3:=X3.mono hb;have HV5:=hup HV5 hb;have HV6:=hup HV6 hb;have HV7:=hup HV7 hb;have hE:=hE.mono hb;have hbw:=bu hbw hb;clear hb;rcases H_k1.o with⟨rfl,h_k1⟩|⟨rfl,h_k1⟩
 ·have G_k1:=hii h_k1;clear h_k1;rw[zbB]at HV5;rw[zbB]at HV6;obtain rfl:=Hz7.o rfl;obtain⟨x5a,x5b,_,_⟩:=id X5;obtain⟨x6a,x6b,_,_⟩:=id X6;go_wp2_with fail;go_fit (zjx _ _ (a.num*(b.den:Int)) (b.num*(a.den:Int)) k2 v3 HV5.o HV6.o H_k2 hE);rintro e v4⟨⟨J8,ao8,n8,Y8,rfl,HV8⟩,hb⟩;have X1:=X1.mono hb;have X2:=X2.mono hb;have X3:=X3.mono hb;have HV7:=hup HV7 hb;have X5:=X5.mono hb;have X6:=X6.mono hb;have X7:=X7.mono hb;have hE:=hE.mono hb;have hbw:=bu hbw hb;clear hb;clear x5a x5b x6a x6b;go_upto_region 7 with fail;have lX8X1:=X1.lt;have lX8X2:=X2.lt;have lX8X3:=X3.lt;have lX8X5:=X5.lt;have lX8X6:=X6.lt;have lX8X7:=X7.lt;have X8:=Box.new v4 (.bool J8) (.slice ao8 n8 Y8) 30;have hb:=bA v4 (.cells #[.bool J8,.slice ao8 n8 Y8] 30);generalize v4.alloc (.cells #[.bool J8,.slice ao8 n8 Y8] 30)=v5 at*;have X3:=X3.mono hb;have HV7:=hup HV7 hb;have X7:=X7.mono hb;have HV8:=hup HV8 hb;have hE:=hE.mono hb;have hbw:=bu hbw hb;clear hb;rcases H_k2.o with⟨rfl,h_k2⟩|⟨rfl,h_k2⟩
  ·have G_k2:=hii h_k2;clear h_k2;rw[zbB]at HV8;rcases H_k3.o with⟨rfl,h_k3⟩|⟨rfl,h_k3⟩
   ·have G_k3:=hii h_k3;clear h_k3;obtain rfl:k=0:=hs.o.yes ⟨G_k1.o,G_k2.o,G_k3.o⟩;rw[zbB]at HV7;have HS1:Hid (zaB ((a.den:Int)*(b.den:Int))=1):=hii (by have h1:=Rq.den_gt a;have h2:=Rq.den_gt b;have:=Int.mul_pos h1 h2;unfold zaB;rw[if_neg oM,if_neg oM]);obtain⟨x7a,x7b,_,_⟩:=id X7;go_wp2_with fail;go_fit (zaW _ ((a.den:Int)*(b.den:Int)) 1 v5 HS1 HV7.o);rintro e v6⟨rfl,hb⟩;have X3:=X3.mono hb;have HV7:=hup HV7 hb;have X7:=X7.mono hb;have HV8:=hup HV8 hb;have X8:=X8.mono hb;have hE:=hE.mono hb;have hbw:=bu hbw hb;clear hb;clear x7a x7b;obtain⟨x7a,x7b,_,_⟩:=id X7;obtain⟨x8a,x8b,_,_⟩:=id X8;go_wp2_with fail;go_fit (zcX _ _ ((a.num*(b.den:Int))+(b.num*(a.den:Int))) ((a.den:Int)*(b.den:Int)) v6 HV8.o HV7.o (hii (zj2 a b)) hE);rintro e v7⟨⟨ngA,aoA,nA,capA,ngB,aoB,nB,capB,rfl,HVA,HVB⟩,hb⟩;have X3:=X3.mono hb;have hbw:=bu hbw hb;clear hb;clear x7a x7b x8a x8b;rw[Rq.add_eq]at HVA HVB;obtain⟨x3a,x3b,x3c,x3d,_,_,_,_⟩:=id X3;go_wp2;refine bodyPost_ret (v:=.tuple #[.agg #[.bool ngA,.slice aoA nA capA,.bool ngB,.slice aoB nB capB],.int .i64 0]) (by simp[results,Tryz.results52,go_sem,x3a,x3b,x3c,x3d]) rfl ⟨PK.of ⟨ngA,aoA,nA,capA,ngB,aoB,nB,capB,rfl,hii (HVA.o.put4B X3 (.bool ngA) (.slice aoA nA capA) (.bool ngB) (.slice aoB nB capB)),hii (HVB.o.put4B X3 (.bool ngA) (.slice aoA nA capA) (.bool ngB) (.slice aoB nB capB))⟩,Below.put4 hbw oM (.bool ngA) (.slice aoA nA capA) (.bool ngB) (.slice aoB nB capB)⟩
   ·have G_k3:=hii h_k3;clear h_k3;rw[zfw]at HV7;obtain⟨x7a,x7b,_,_⟩:=id X7;go_wp2_with fail;go_fit (zaW _ 0 0 v5 (hii rfl) HV7.o);rintro e v6⟨rfl,hb⟩;have X3:=X3.mono hb;have hbw:=bu hbw hb;clear hb;clear x7a x7b;obtain rfl:k=3:=hs.o.no (λh=>G_k3.o h.2.2);obtain⟨x3a,x3b,x3c,x3d,_,_,_,_⟩:=id X3;go_wp2;refine bodyPost_ret (v:=.tuple #[.agg #[bF_,nS_,bF_,nS_],.int .i64 3]) (by simp[results,Tryz.results52,go_sem,x3a,x3b,x3c,x3d]) rfl ⟨PK.err _ _,Below.put4 hbw oM bF_ nS_ bF_ nS_⟩
  ·have G_k2:=hii h_k2;clear h_k2;obtain rfl:k=3:=hs.o.no (λh=>G_k2.o h.2.1);obtain⟨x3a,x3b,x3c,x3d,_,_,_,_⟩:=id X3;go_wp2;refine bodyPost_ret (v:=.tuple #[.agg #[bF_,nS_,bF_,nS_],.int .i64 3]) (by simp[results,Tryz.results52,go_sem,x3a,x3b,x3c,x3d]) rfl ⟨PK.err _ _,Below.put4 hbw oM bF_ nS_ bF_ nS_⟩
 ·have G_k1:=hii h_k1;clear h_k1;obtain rfl:k=3:=hs.o.no (λh=>G_k1.o h.1);obtain⟨x3a,x3b,x3c,x3d,_,_,_,_⟩:=id X3;go_wp2;refine bodyPost_ret (v:=.tuple #[.agg #[bF_,nS_,bF_,nS_],.int .i64 3]) (by simp[results,Tryz.results52,go_sem,x3a,x3b,x3c,x3d]) rfl ⟨PK.err _ _,Below.put4 hbw oM bF_ nS_ bF_ nS_⟩
theorem zn1(va vb:Vl)(a b:Rat)(k:Int)(w:Wo)(ha:zad w va a)(hb:zad w vb b)(hs:Hid (KQ k (zcI a b)))(hE:Env w) :
  CP 62 #[va,vb] w λe w'=>PK k (a+b) w' e/\BH w w':=by
 have hbw:=Below.refl w.heap.size w;obtain⟨J1,ao1,n1,Y1,J2,ao2,n2,Y2,rfl,h1,h2⟩:=ha;have HV1:=hii h1;have HV2:=hii h2;clear h1 h2;obtain⟨J3,ao3,n3,Y3,J4,ao4,n4,Y4,rfl,h1,h2⟩:=hb;have HV3:=hii h1;have HV4:=hii h2;clear h1 h2;go_enter func62,ntmps62;go_upto_region 1 with fail;obtain⟨wx,hwx,hszx,X1,X2,X3,hb⟩:=za1 w (.bool J1) (.slice ao1 n1 Y1) (.bool J2) (.slice ao2 n2 Y2) 32 (.bool J3) (.slice ao3 n3 Y3) (.bool J4) (.slice ao4 n4 Y4) 32 bF_ nS_ bF_ nS_ 32;rw[<-hwx];clear hwx;obtain⟨v1,rfl⟩:=exi wx;have HV1:=hup HV1 hb;have HV2:=hup HV2 hb;have HV3:=hup HV3 hb;have HV4:=hup HV4 hb;have hE:=hE.mono hb;have hbw:=bu hbw hb;clear hb;obtain⟨x1a,x1b,x1c,x1d,_,_,_,_⟩:=id X1;obtain⟨x2a,x2b,x2c,x2d,_,_,_,_⟩:=id X2;go_wp2_with fail;go_fit (zi6 _ _ a b k v1 (zad.mk' HV1 HV2) (zad.mk' HV3 HV4) hs hE);rintro e v2⟨⟨J5,ao5,n5,Y5,J6,ao6,n6,Y6,rfl,HV5,HV6,Hz⟩,hb⟩;have X3:=X3.mono hb;have hbw:=bu hbw hb;clear hb;clear x1a x1b x1c x1d x2a x2b x2c x2d;obtain⟨x3a,x3b,x3c,x3d,_,_,_,_⟩:=id X3;go_wp2;refine bodyPost_ret (v:=.tuple #[.agg #[.bool J5,.slice ao5 n5 Y5,.bool J6,.slice ao6 n6 Y6],.int .i64 k]) (by simp[results,Tryz.results62,go_sem,x3a,x3b,x3c,x3d]) rfl ⟨⟨J5,ao5,n5,Y5,J6,ao6,n6,Y6,rfl,hii (HV5.o.put4B X3 (.bool J5) (.slice ao5 n5 Y5) (.bool J6) (.slice ao6 n6 Y6)),hii (HV6.o.put4B X3 (.bool J5) (.slice ao5 n5 Y5) (.bool J6) (.slice ao6 n6 Y6)),Hz⟩,Below.put4 hbw oM (.bool J5) (.slice ao5 n5 Y5) (.bool J6) (.slice ao6 n6 Y6)⟩
theorem zlS(va vb:Vl)(a b:Rat)(w:Wo)(ha:zad w va a)(hb:zad w vb b)(hs:Hid (zcI a b))(hE:Env w) :
  CP 62 #[va,vb] w λe w'=>zb3 w' (a+b) e/\BH w w':=(zn1 va vb a b 0 w ha hb (hii (.inl ⟨rfl,hs.o⟩)) hE).mono λ_ _ ⟨h,hb⟩=>⟨h.got,hb⟩
theorem zi5(va vb:Vl)(a b:Rat)(k:Int)(w:Wo)(ha:zad w va a)(hb:zad w vb b)(hs:Hid (KQ k (zku a b)))(hE:Env w) :
  CP 52 #[va,vb,.bool true] w λe w'=>PK k (a-b) w' e/\BH w w':=by
 obtain⟨k1,h_k1⟩:=KQ.ex (CrS a b);have H_k1:=hii h_k1;clear h_k1;obtain⟨k2,h_k2⟩:=KQ.ex (Rq.Sm ((a.num*(b.den:Int))+(-(b.num*(a.den:Int)))));have H_k2:=hii h_k2;clear h_k2;obtain⟨k3,h_k3⟩:=KQ.ex (Rq.Sm ((a.den:Int)*(b.den:Int)));have H_k3:=hii h_k3;clear h_k3;have HSU:Hid (Rq.Sm ((a.num*(b.den:Int))-(b.num*(a.den:Int)))↔Rq.Sm ((a.num*(b.den:Int))+(-(b.num*(a.den:Int))))):=hii (by rw[Int.sub_eq_add_neg]);have hE0:=hE;have hbw:=Below.refl w.heap.size w;obtain⟨J1,ao1,n1,Y1,J2,ao2,n2,Y2,rfl,h1,h2⟩:=ha;have HV1:=hii h1;have HV2:=hii h2;clear h1 h2;obtain⟨J3,ao3,n3,Y3,J4,ao4,n4,Y4,rfl,h1,h2⟩:=hb;have HV3:=hii h1;have HV4:=hii h2;clear h1 h2;go_enter func52,ntmps52;go_upto_region 1 with fail;obtain⟨wx,hwx,hszx,X1,X2,X3,hb⟩:=za1 w (.bool J1) (.slice ao1 n1 Y1) (.bool J2) (.slice ao2 n2 Y2) 32 (.bool J3) (.slice ao3 n3 Y3) (.bool J4) (.slice ao4 n4 Y4) 32 bF_ nS_ bF_ nS_ 32;rw[<-hwx];clear hwx;obtain⟨v1,rfl⟩:=exi wx;have HV1:=hup HV1 hb;have HV2:=hup HV2 hb;have HV3:=hup HV3 hb;have HV4:=hup HV4 hb;have hE:=hE.mono hb;have hbw:=bu hbw hb;clear hb;obtain⟨x1a,x1b,x1c,x1d,_,_,_,_⟩:=id X1;obtain⟨x2a,x2b,x2c,x2d,_,_,_,_⟩:=id X2;go_wp2_with fail;go_fit (zg6 _ _ a b k1 k3 v1 (zad.mk' HV1 HV2) (zad.mk' HV3 HV4) H_k1 H_k3 hE);rintro e v2⟨⟨z7,⟨J5,ao5,n5,Y5,J6,ao6,n6,Y6,J7,ao7,n7,Y7,rfl,HV5,HV6,HV7⟩,hz7⟩,hb⟩;have HV1:=hup HV1 hb;have HV2:=hup HV2 hb;have HV3:=hup HV3 hb;have HV4:=hup HV4 hb;have X1:=X1.mono hb;have X2:=X2.mono hb;have X3:=X3.mono hb;have hE:=hE.mono hb;have hbw:=bu hbw hb;clear hb;clear x1a x1b x1c x1d x2a x2b x2c x2d;have Hz7:=hii hz7;clear hz7;go_upto_region 2 with fail;have lX5X1:=X1.lt;have lX5X2:=X2.lt;have lX5X3:=X3.lt;obtain⟨wx,hwx,hszx,X5,X6,X7,hb⟩:=zd2 v2 (.bool J5) (.slice ao5 n5 Y5) 30 (.bool J6) (.slice ao6 n6 Y6) 30 (.bool J7) (.slice ao7 n7 Y7) 30;rw[<-hwx];clear hwx;obtain⟨v3,rfl⟩:=exi wx;have HV1:=hup HV1 hb;have HV2:=hup HV2 hb;have HV3:=hup HV3 hb;have HV4:=hup HV4 hb;have X1:=X1.mono hb;have X2:=X2.mono hb;have X3:=X3.mono hb;have HV5:=hup HV5 hb;have HV6:=hup HV6 hb;have HV7:=hup HV7 hb;have hE:=hE.mono hb;have hbw:=bu hbw hb;clear hb;rcases H_k1.o with⟨rfl,h_k1⟩|⟨rfl,h_k1⟩
 ·have G_k1:=hii h_k1;clear h_k1;rw[zbB]at HV5;rw[zbB]at HV6;obtain rfl:=Hz7.o rfl;obtain⟨x6a,x6b,_,_⟩:=id X6;go_wp2_with fail;go_fit (zgV _ (b.num*(a.den:Int)) v3 HV6.o);rintro e v4⟨⟨J9,ao9,n9,Y9,rfl,HV9⟩,hb⟩;have HV1:=hup HV1 hb;have HV2:=hup HV2 hb;have HV3:=hup HV3 hb;have HV4:=hup HV4 hb;have X1:=X1.mono hb;have X2:=X2.mono hb;have X3:=X3.mono hb;have HV5:=hup HV5 hb;have HV6:=hup HV6 hb;have HV7:=hup HV7 hb;have X5:=X5.mono hb;have X6:=X6.mono hb;have X7:=X7.mono hb;have hE:=hE.mono hb;have hbw:=bu hbw hb;clear hb;clear x6a x6b;obtain⟨x6a,x6b,_,_⟩:=id X6;go_upto_region 6 with fail;clear x6a x6b;have HV1:=hii (HV1.o.put2B X6 (.bool J9) (.slice ao9 n9 Y9));have HV2:=hii (HV2.o.put2B X6 (.bool J9) (.slice ao9 n9 Y9));have HV3:=hii (HV3.o.put2B X6 (.bool J9) (.slice ao9 n9 Y9));have HV4:=hii (HV4.o.put2B X6 (.bool J9) (.slice ao9 n9 Y9));have X1:=X1.other2 (u:=.bool J9) (v:=.slice ao9 n9 Y9) (show w.heap.size≠v2.heap.size+1 by omega);have X2:=X2.other2 (u:=.bool J9) (v:=.slice ao9 n9 Y9) (show w.heap.size+1≠v2.heap.size+1 by omega);have X3:=X3.other2 (u:=.bool J9) (v:=.slice ao9 n9 Y9) (show w.heap.size+1+1≠v2.heap.size+1 by omega);have HV5:=hii (HV5.o.put2B X6 (.bool J9) (.slice ao9 n9 Y9));have HV6:=hii (HV6.o.put2B X6 (.bool J9) (.slice ao9 n9 Y9));have HV7:=hii (HV7.o.put2B X6 (.bool J9) (.slice ao9 n9 Y9));have X5:=X5.other2 (u:=.bool J9) (v:=.slice ao9 n9 Y9) (show v2.heap.size≠v2.heap.size+1 by omega);have X7:=X7.other2 (u:=.bool J9) (v:=.slice ao9 n9 Y9) (show v2.heap.size+1+1≠v2.heap.size+1 by omega);have HV9:=hii (HV9.o.put2B X6 (.bool J9) (.slice ao9 n9 Y9));have X6:=X6.set2I (.bool J9) (.slice ao9 n9 Y9);have hbw:=Below.put2 hbw (n:=v2.heap.size+1) oM (.bool J9) (.slice ao9 n9 Y9);have hE:=hE0.mono hbw;generalize ((v4.setCell ⟨v2.heap.size+1,0,none⟩ (.bool J9)).setCell ⟨v2.heap.size+1,1,none⟩ (.slice ao9 n9 Y9))=v5 at*;obtain⟨x5a,x5b,_,_⟩:=id X5;obtain⟨x6a,x6b,_,_⟩:=id X6;go_wp2_with fail;go_fit (zjx _ _ (a.num*(b.den:Int)) (-(b.num*(a.den:Int))) k2 v5 HV5.o HV9.o H_k2 hE);rintro e v6⟨⟨J8,ao8,n8,Y8,rfl,HV8⟩,hb⟩;have X1:=X1.mono hb;have X2:=X2.mono hb;have X3:=X3.mono hb;have HV7:=hup HV7 hb;have X5:=X5.mono hb;have X6:=X6.mono hb;have X7:=X7.mono hb;have hE:=hE.mono hb;have hbw:=bu hbw hb;clear hb;clear x5a x5b x6a x6b;go_upto_region 7 with fail;have lX8X1:=X1.lt;have lX8X2:=X2.lt;have lX8X3:=X3.lt;have lX8X5:=X5.lt;have lX8X6:=X6.lt;have lX8X7:=X7.lt;have X8:=Box.new v6 (.bool J8) (.slice ao8 n8 Y8) 30;have hb:=bA v6 (.cells #[.bool J8,.slice ao8 n8 Y8] 30);generalize v6.alloc (.cells #[.bool J8,.slice ao8 n8 Y8] 30)=v7 at*;have X3:=X3.mono hb;have HV7:=hup HV7 hb;have X7:=X7.mono hb;have HV8:=hup HV8 hb;have hE:=hE.mono hb;have hbw:=bu hbw hb;clear hb;rcases H_k2.o with⟨rfl,h_k2⟩|⟨rfl,h_k2⟩
  ·have G_k2:=hii h_k2;clear h_k2;rw[zbB]at HV8;rcases H_k3.o with⟨rfl,h_k3⟩|⟨rfl,h_k3⟩
   ·have G_k3:=hii h_k3;clear h_k3;obtain rfl:k=0:=hs.o.yes ⟨G_k1.o,HSU.o.2 G_k2.o,G_k3.o⟩;rw[zbB]at HV7;have HS1:Hid (zaB ((a.den:Int)*(b.den:Int))=1):=hii (by have h1:=Rq.den_gt a;have h2:=Rq.den_gt b;have:=Int.mul_pos h1 h2;unfold zaB;rw[if_neg oM,if_neg oM]);obtain⟨x7a,x7b,_,_⟩:=id X7;go_wp2_with fail;go_fit (zaW _ ((a.den:Int)*(b.den:Int)) 1 v7 HS1 HV7.o);rintro e v8⟨rfl,hb⟩;have X3:=X3.mono hb;have HV7:=hup HV7 hb;have X7:=X7.mono hb;have HV8:=hup HV8 hb;have X8:=X8.mono hb;have hE:=hE.mono hb;have hbw:=bu hbw hb;clear hb;clear x7a x7b;obtain⟨x7a,x7b,_,_⟩:=id X7;obtain⟨x8a,x8b,_,_⟩:=id X8;go_wp2_with fail;go_fit (zcX _ _ ((a.num*(b.den:Int))+(-(b.num*(a.den:Int)))) ((a.den:Int)*(b.den:Int)) v8 HV8.o HV7.o (hii (zj2 a b)) hE);rintro e v9⟨⟨ngA,aoA,nA,capA,ngB,aoB,nB,capB,rfl,HVA,HVB⟩,hb⟩;have X3:=X3.mono hb;have hbw:=bu hbw hb;clear hb;clear x7a x7b x8a x8b;rw[<-Int.sub_eq_add_neg]at HVA HVB;rw[Rq.sub_eq]at HVA HVB;obtain⟨x3a,x3b,x3c,x3d,_,_,_,_⟩:=id X3;go_wp2;refine bodyPost_ret (v:=.tuple #[.agg #[.bool ngA,.slice aoA nA capA,.bool ngB,.slice aoB nB capB],.int .i64 0]) (by simp[results,Tryz.results52,go_sem,x3a,x3b,x3c,x3d]) rfl ⟨PK.of ⟨ngA,aoA,nA,capA,ngB,aoB,nB,capB,rfl,hii (HVA.o.put4B X3 (.bool ngA) (.slice aoA nA capA) (.bool ngB) (.slice aoB nB capB)),hii (HVB.o.put4B X3 (.bool ngA) (.slice aoA nA capA) (.bool ngB) (.slice aoB nB capB))⟩,Below.put4 hbw oM (.bool ngA) (.slice aoA nA capA) (.bool ngB) (.slice aoB nB capB)⟩
   ·have G_k3:=hii h_k3;clear h_k3;rw[zfw]at HV7;obtain⟨x7a,x7b,_,_⟩:=id X7;go_wp2_with fail;go_fit (zaW _ 0 0 v7 (hii rfl) HV7.o);rintro e v8⟨rfl,hb⟩;have X3:=X3.mono hb;have hbw:=bu hbw hb;clear hb;clear x7a x7b;obtain rfl:k=3:=hs.o.no (λh=>G_k3.o h.2.2);obtain⟨x3a,x3b,x3c,x3d,_,_,_,_⟩:=id X3;go_wp2;refine bodyPost_ret (v:=.tuple #[.agg #[bF_,nS_,bF_,nS_],.int .i64 3]) (by simp[results,Tryz.results52,go_sem,x3a,x3b,x3c,x3d]) rfl ⟨PK.err _ _,Below.put4 hbw oM bF_ nS_ bF_ nS_⟩
  ·have G_k2:=hii h_k2;clear h_k2;obtain rfl:k=3:=hs.o.no (λh=>G_k2.o (HSU.o.1 h.2.1));obtain⟨x3a,x3b,x3c,x3d,_,_,_,_⟩:=id X3;go_wp2;refine bodyPost_ret (v:=.tuple #[.agg #[bF_,nS_,bF_,nS_],.int .i64 3]) (by simp[results,Tryz.results52,go_sem,x3a,x3b,x3c,x3d]) rfl ⟨PK.err _ _,Below.put4 hbw oM bF_ nS_ bF_ nS_⟩
 ·have G_k1:=hii h_k1;clear h_k1;obtain rfl:k=3:=hs.o.no (λh=>G_k1.o h.1);obtain⟨x3a,x3b,x3c,x3d,_,_,_,_⟩:=id X3;go_wp2;refine bodyPost_ret (v:=.tuple #[.agg #[bF_,nS_,bF_,nS_],.int .i64 3]) (by simp[results,Tryz.results52,go_sem,x3a,x3b,x3c,x3d]) rfl ⟨PK.err _ _,Below.put4 hbw oM bF_ nS_ bF_ nS_⟩
theorem znW(va vb:Vl)(a b:Rat)(k:Int)(w:Wo)(ha:zad w va a)(hb:zad w vb b)(hs:Hid (KQ k (zku a b)))(hE:Env w) :
  CP 19 #[va,vb] w λe w'=>PK k (a-b) w' e/\BH w w':=by
 have hbw:=Below.refl w.heap.size w;obtain⟨J1,ao1,n1,Y1,J2,ao2,n2,Y2,rfl,h1,h2⟩:=ha;have HV1:=hii h1;have HV2:=hii h2;clear h1 h2;obtain⟨J3,ao3,n3,Y3,J4,ao4,n4,Y4,rfl,h1,h2⟩:=hb;have HV3:=hii h1;have HV4:=hii h2;clear h1 h2;go_enter func19,ntmps19;go_upto_region 1 with fail;obtain⟨wx,hwx,hszx,X1,X2,X3,hb⟩:=za1 w (.bool J1) (.slice ao1 n1 Y1) (.bool J2) (.slice ao2 n2 Y2) 32 (.bool J3) (.slice ao3 n3 Y3) (.bool J4) (.slice ao4 n4 Y4) 32 bF_ nS_ bF_ nS_ 32;rw[<-hwx];clear hwx;obtain⟨v1,rfl⟩:=exi wx;have HV1:=hup HV1 hb;have HV2:=hup HV2 hb;have HV3:=hup HV3 hb;have HV4:=hup HV4 hb;have hE:=hE.mono hb;have hbw:=bu hbw hb;clear hb;obtain⟨x1a,x1b,x1c,x1d,_,_,_,_⟩:=id X1;obtain⟨x2a,x2b,x2c,x2d,_,_,_,_⟩:=id X2;go_wp2_with fail;go_fit (zi5 _ _ a b k v1 (zad.mk' HV1 HV2) (zad.mk' HV3 HV4) hs hE);rintro e v2⟨⟨J5,ao5,n5,Y5,J6,ao6,n6,Y6,rfl,HV5,HV6,Hz⟩,hb⟩;have X3:=X3.mono hb;have hbw:=bu hbw hb;clear hb;clear x1a x1b x1c x1d x2a x2b x2c x2d;obtain⟨x3a,x3b,x3c,x3d,_,_,_,_⟩:=id X3;go_wp2;refine bodyPost_ret (v:=.tuple #[.agg #[.bool J5,.slice ao5 n5 Y5,.bool J6,.slice ao6 n6 Y6],.int .i64 k]) (by simp[results,Tryz.results19,go_sem,x3a,x3b,x3c,x3d]) rfl ⟨⟨J5,ao5,n5,Y5,J6,ao6,n6,Y6,rfl,hii (HV5.o.put4B X3 (.bool J5) (.slice ao5 n5 Y5) (.bool J6) (.slice ao6 n6 Y6)),hii (HV6.o.put4B X3 (.bool J5) (.slice ao5 n5 Y5) (.bool J6) (.slice ao6 n6 Y6)),Hz⟩,Below.put4 hbw oM (.bool J5) (.slice ao5 n5 Y5) (.bool J6) (.slice ao6 n6 Y6)⟩
theorem zlQ(va vb:Vl)(a b:Rat)(w:Wo)(ha:zad w va a)(hb:zad w vb b)(hs:Hid (zku a b))(hE:Env w) :
  CP 19 #[va,vb] w λe w'=>zb3 w' (a-b) e/\BH w w':=(znW va vb a b 0 w ha hb (hii (.inl ⟨rfl,hs.o⟩)) hE).mono λ_ _ ⟨h,hb⟩=>⟨h.got,hb⟩
theorem znY(va vb:Vl)(a b:Rat)(k:Int)(w:Wo)(ha:zad w va a)(hb:zad w vb b)(hs:Hid (KQ k (zeN a b)))(hE:Env w) :
  CP 11 #[va,vb] w λe w'=>PK k (a*b) w' e/\BH w w':=by
 obtain⟨k1,h_k1⟩:=KQ.ex (Rq.Sm (a.num*b.num));have H_k1:=hii h_k1;clear h_k1;obtain⟨k2,h_k2⟩:=KQ.ex (Rq.Sm ((a.den:Int)*(b.den:Int)));have H_k2:=hii h_k2;clear h_k2;have HNE:Hid (((a.den:Int)*(b.den:Int))≠0):=hii (zj2 a b);have hbw:=Below.refl w.heap.size w;obtain⟨J1,ao1,n1,Y1,J2,ao2,n2,Y2,rfl,h1,h2⟩:=ha;have HV1:=hii h1;have HV2:=hii h2;clear h1 h2;obtain⟨J3,ao3,n3,Y3,J4,ao4,n4,Y4,rfl,h1,h2⟩:=hb;have HV3:=hii h1;have HV4:=hii h2;clear h1 h2;go_enter func11,ntmps11;go_upto_region 1 with fail;obtain⟨wx,hwx,hszx,X1,X2,X3,hb⟩:=za1 w (.bool J1) (.slice ao1 n1 Y1) (.bool J2) (.slice ao2 n2 Y2) 32 (.bool J3) (.slice ao3 n3 Y3) (.bool J4) (.slice ao4 n4 Y4) 32 bF_ nS_ bF_ nS_ 32;rw[<-hwx];clear hwx;obtain⟨v1,rfl⟩:=exi wx;have HV1:=hup HV1 hb;have HV2:=hup HV2 hb;have HV3:=hup HV3 hb;have HV4:=hup HV4 hb;have hE:=hE.mono hb;have hbw:=bu hbw hb;clear hb;obtain⟨x1a,x1b,x1c,x1d,_,_,_,_⟩:=id X1;go_wp2_with fail;go_fit (zaS _ a v1 (zad.mk' HV1 HV2) hE);rintro e v2⟨rfl,hb⟩;have HV1:=hup HV1 hb;have HV2:=hup HV2 hb;have HV3:=hup HV3 hb;have HV4:=hup HV4 hb;have X1:=X1.mono hb;have X2:=X2.mono hb;have X3:=X3.mono hb;have hE:=hE.mono hb;have hbw:=bu hbw hb;clear hb;clear x1a x1b x1c x1d;obtain⟨x2a,x2b,x2c,x2d,_,_,_,_⟩:=id X2;go_wp2_with fail;go_fit (zaS _ b v2 (zad.mk' HV3 HV4) hE);rintro e v3⟨rfl,hb⟩;have HV1:=hup HV1 hb;have HV2:=hup HV2 hb;have HV3:=hup HV3 hb;have HV4:=hup HV4 hb;have X1:=X1.mono hb;have X2:=X2.mono hb;have X3:=X3.mono hb;have hE:=hE.mono hb;have hbw:=bu hbw hb;clear hb;clear x2a x2b x2c x2d;obtain⟨x1a,x1b,x1c,x1d,_,_,_,_⟩:=id X1;obtain⟨x2a,x2b,x2c,x2d,_,_,_,_⟩:=id X2;go_wp2_with fail;go_fit (zcD _ _ a.num b.num k1 v3 HV1.o HV3.o H_k1 hE);rintro e v4⟨⟨J5,ao5,n5,Y5,rfl,HV5⟩,hb⟩;have HV2:=hup HV2 hb;have HV4:=hup HV4 hb;have X1:=X1.mono hb;have X2:=X2.mono hb;have X3:=X3.mono hb;have hE:=hE.mono hb;have hbw:=bu hbw hb;clear hb;clear x1a x1b x1c x1d x2a x2b x2c x2d;go_upto_region 4 with fail;have lX5X1:=X1.lt;have lX5X2:=X2.lt;have lX5X3:=X3.lt;have X5:=Box.new v4 (.bool J5) (.slice ao5 n5 Y5) 30;have hb:=bA v4 (.cells #[.bool J5,.slice ao5 n5 Y5] 30);generalize v4.alloc (.cells #[.bool J5,.slice ao5 n5 Y5] 30)=v5 at*;have HV2:=hup HV2 hb;have HV4:=hup HV4 hb;have X1:=X1.mono hb;have X2:=X2.mono hb;have X3:=X3.mono hb;have HV5:=hup HV5 hb;have hE:=hE.mono hb;have hbw:=bu hbw hb;clear hb;obtain⟨x1a,x1b,x1c,x1d,_,_,_,_⟩:=id X1;obtain⟨x2a,x2b,x2c,x2d,_,_,_,_⟩:=id X2;go_wp2_with fail;go_fit (zcD _ _ (a.den:Int) (b.den:Int) k2 v5 HV2.o HV4.o H_k2 hE);rintro e v6⟨⟨J6,ao6,n6,Y6,rfl,HV6⟩,hb⟩;have X1:=X1.mono hb;have X2:=X2.mono hb;have X3:=X3.mono hb;have HV5:=hup HV5 hb;have X5:=X5.mono hb;have hE:=hE.mono hb;have hbw:=bu hbw hb;clear hb;clear x1a x1b x1c x1d x2a x2b x2c x2d;go_upto_region 5 with fail;have lX6X1:=X1.lt;have lX6X2:=X2.lt;have lX6X3:=X3.lt;have lX6X5:=X5.lt;have X6:=Box.new v6 (.bool J6) (.slice ao6 n6 Y6) 30;have hb:=bA v6 (.cells #[.bool J6,.slice ao6 n6 Y6] 30);generalize v6.alloc (.cells #[.bool J6,.slice ao6 n6 Y6] 30)=v7 at*;have X3:=X3.mono hb;have HV5:=hup HV5 hb;have X5:=X5.mono hb;have HV6:=hup HV6 hb;have hE:=hE.mono hb;have hbw:=bu hbw hb;clear hb;rcases H_k1.o with⟨rfl,h_k1⟩|⟨rfl,h_k1⟩
 ·have G_k1:=hii h_k1;clear h_k1;rw[zbB]at HV5;rcases H_k2.o with⟨rfl,h_k2⟩|⟨rfl,h_k2⟩
  ·have G_k2:=hii h_k2;clear h_k2;rw[zbB]at HV6;obtain rfl:k=0:=hs.o.yes ⟨G_k1.o,G_k2.o⟩;obtain⟨x5a,x5b,_,_⟩:=id X5;obtain⟨x6a,x6b,_,_⟩:=id X6;go_wp2_with fail;go_fit (zcX _ _ (a.num*b.num) ((a.den:Int)*(b.den:Int)) v7 HV5.o HV6.o HNE hE);rintro e v8⟨⟨J7,ao7,n7,Y7,J8,ao8,n8,Y8,rfl,HV7,HV8⟩,hb⟩;have X3:=X3.mono hb;have hbw:=bu hbw hb;clear hb;clear x5a x5b x6a x6b;rw[Rq.mul_eq]at HV7 HV8;obtain⟨x3a,x3b,x3c,x3d,_,_,_,_⟩:=id X3;go_wp2;refine bodyPost_ret (v:=.tuple #[.agg #[.bool J7,.slice ao7 n7 Y7,.bool J8,.slice ao8 n8 Y8],.int .i64 0]) (by simp[results,Tryz.results11,go_sem,x3a,x3b,x3c,x3d]) rfl ⟨PK.of ⟨J7,ao7,n7,Y7,J8,ao8,n8,Y8,rfl,hii (HV7.o.put4B X3 (.bool J7) (.slice ao7 n7 Y7) (.bool J8) (.slice ao8 n8 Y8)),hii (HV8.o.put4B X3 (.bool J7) (.slice ao7 n7 Y7) (.bool J8) (.slice ao8 n8 Y8))⟩,Below.put4 hbw oM (.bool J7) (.slice ao7 n7 Y7) (.bool J8) (.slice ao8 n8 Y8)⟩
  ·have G_k2:=hii h_k2;clear h_k2;obtain rfl:k=3:=hs.o.no (λh=>G_k2.o h.2);obtain⟨x3a,x3b,x3c,x3d,_,_,_,_⟩:=id X3;go_wp2;refine bodyPost_ret (v:=.tuple #[.agg #[bF_,nS_,bF_,nS_],.int .i64 3]) (by simp[results,Tryz.results11,go_sem,x3a,x3b,x3c,x3d]) rfl ⟨PK.err _ _,Below.put4 hbw oM bF_ nS_ bF_ nS_⟩
 ·have G_k1:=hii h_k1;clear h_k1;obtain rfl:k=3:=hs.o.no (λh=>G_k1.o h.1);obtain⟨x3a,x3b,x3c,x3d,_,_,_,_⟩:=id X3;go_wp2;refine bodyPost_ret (v:=.tuple #[.agg #[bF_,nS_,bF_,nS_],.int .i64 3]) (by simp[results,Tryz.results11,go_sem,x3a,x3b,x3c,x3d]) rfl ⟨PK.err _ _,Below.put4 hbw oM bF_ nS_ bF_ nS_⟩
theorem znX(va vb:Vl)(a b:Rat)(w:Wo)(ha:zad w va a)(hb:zad w vb b)(hs:Hid (zeN a b))(hE:Env w) :
  CP 11 #[va,vb] w λe w'=>zb3 w' (a*b) e/\BH w w':=(znY va vb a b 0 w ha hb (hii (.inl ⟨rfl,hs.o⟩)) hE).mono λ_ _ ⟨h,hb⟩=>⟨h.got,hb⟩
end Go.Proofs.YtfgffkmddanjjaaGreatDoor
namespace Rq
open Go
end Rq
namespace Go.Proofs.YtfgffkmddanjjaaGreatDoor
open _root_.Go.Proofs.Tryz
open Go.RowKit
variable {e:Ending} {l:LN} {xs:List Vl} {g k:Nat} {G:Nat->Prop} {ao:OA} {p v x0 x1 x2 x3:Vl} {W w':Wo}
def zpl(w:Wo):Prop:=∃m:Int,w.cell? (aD_ 1 0)=some (.int .i64 m)
theorem zpl.mono{w:Wo}(h:zpl w)(hb:BH w w'):zpl w':=by
 obtain⟨m,hm⟩:=h;exact⟨m,(hb.cell (p:=⟨1,0,none⟩) (zaf hm)).trans hm⟩
theorem zaU.set4Z{w:Wo}{n:Nat}(h:zaU w n x0 x1 x2 x3)(y0 y1 y2 y3:Vl):zaU ((((w.setCell (aD_ n 0) y0).setCell (aD_ n 1) y1).setCell (aD_ n 2) y2).setCell (aD_ n 3) y3) n y0 y1 y2 y3:=by
 obtain⟨h0,h1,h2,h3,f0,f1,f2,f3⟩:=h;exact⟨by simp[go_sem,h0],by simp[go_sem,h1],by simp[go_sem,h2],by simp[go_sem,h3],by simp[go_sem,f0],by simp[go_sem,f1],by simp[go_sem,f2],by simp[go_sem,f3]⟩
end Go.Proofs.YtfgffkmddanjjaaGreatDoor
namespace Rq
open Go
end Rq
namespace Go.Proofs.YtfgffkmddanjjaaGreatDoor
open _root_.Go.Proofs.Tryz
open Go.RowKit
variable {e:Ending} {l:LN} {xs:List Vl} {g k:Nat} {G:Nat->Prop} {ao:OA} {p v x0 x1 x2 x3:Vl} {W w':Wo}
theorem zoy.at{base:Nat}{st:Prop}{z:Int}(h:zoy W base (λW v=>zai W v z) st p)(hs:st) :
  ∃(g:Nat)(ng:Bool)(ao:OA)(l cap:Nat),p=pT g 0/\base<=g/\Box W g (.bool ng) (.slice ao l cap)/\zai W (.agg #[.bool ng,.slice ao l cap]) z:=by
 obtain⟨b,e,hb,_,h3,_⟩:=h;obtain⟨x,y,B,hr⟩:=h3 hs;obtain⟨ng,ao,n,cap,e2⟩:=hr.parts;simp only[Value.agg.injEq,Array.mk.injEq,List.cons.injEq,and_true]at e2;obtain⟨rfl,rfl⟩:=e2;exact⟨b,ng,ao,n,cap,e,hb,B,hr⟩
def zd7(w':Wo)(r:Rat)(e:Ending):Prop :=
 ∃(n1:Bool)(a1:OA)(l1 c1:Nat)(n2:Bool)(a2:OA)(l2 c2:Nat),e=.returned (.agg #[.bool n1,.slice a1 l1 c1,.bool n2,.slice a2 l2 c2]) /\
  Hid (zai w' (.agg #[.bool n1,.slice a1 l1 c1]) r.num)/\Hid (zai w' (.agg #[.bool n2,.slice a2 l2 c2]) (r.den:Int))
theorem d1{n:Nat}(h:n<10):Lib.decDigits n=[UInt8.ofNat (48+n)]:=Lib.decDigits_one h
theorem zaU.putOther{w:Wo}{n m:Nat}{y0 y1 y2 y3:Vl}(h:zaU w n x0 x1 x2 x3)(hne:n≠m):zaU ((((w.setCell (aD_ m 0) y0).setCell (aD_ m 1) y1).setCell (aD_ m 2) y2).setCell (aD_ m 3) y3) n x0 x1 x2 x3:=by
 obtain⟨h0,h1,h2,h3,f0,f1,f2,f3⟩:=h;exact⟨by rw[zam _ hne,zam _ hne,zam _ hne,zam _ hne];exact h0,by rw[zam _ hne,zam _ hne,zam _ hne,zam _ hne];exact h1,
  by rw[zam _ hne,zam _ hne,zam _ hne,zam _ hne];exact h2,by rw[zam _ hne,zam _ hne,zam _ hne,zam _ hne];exact h3,
  by simp[go_sem,f0],by simp[go_sem,f1],by simp[go_sem,f2],by simp[go_sem,f3]⟩
structure zpc(R:FW):Prop where
 mono:∀{W W':Wo} {v:Vl},R W v->BH W W'->R W' v
 put:∀{W:Wo} {n:Nat} {v x0 x1 x2 x3:Vl},R W v->zaU W n bF_ nS_ bF_ nS_->R ((((W.setCell (aD_ n 0) x0).setCell (aD_ n 1) x1).setCell (aD_ n 2) x2).setCell (aD_ n 3) x3) v
def zkw(W:Wo)(base:Nat)(R:FW)(st:Prop)(p:Vl):Prop :=
 ∃b,p=pT b 0/\base<=b/\b<W.heap.size/\(st->∃x0 x1 x2 x3,zaU W b x0 x1 x2 x3/\R W (.agg #[x0,x1,x2,x3]))/\(¬st->zaU W b bF_ nS_ bF_ nS_)
theorem zkw.mono{W':Wo}{base:Nat}{R:FW}{st:Prop}(hR:zpc R)(h:zkw W base R st p)(hb:BH W W'):zkw W' base R st p:=by
 obtain⟨b,e,h1,h2,h3,h4⟩:=h;exact⟨b,e,h1,Nat.lt_of_lt_of_le h2 hb.size,λs=>by obtain⟨x0,x1,x2,x3,B,hr⟩:=h3 s;exact⟨x0,x1,x2,x3,B.mono hb,hR.mono hr hb⟩,λs=>(h4 s).mono hb⟩
def znm(W:Wo)(v:Vl):Prop:=∃r,zad W v r
theorem znm.parts(h:znm W v):∃(ng:Bool)(ao:OA)(n cap:Nat)(J2:Bool)(ao2:OA)(n2 Y2:Nat),v=.agg #[.bool ng,.slice ao n cap,.bool J2,.slice ao2 n2 Y2]:=by
 obtain⟨r,h⟩:=h;exact h.parts
theorem zkw.at{base:Nat}{R:FW}{st:Prop}(h:zkw W base R st p)(hs:st)(hV:∀v,R W v->znm W v) :
  ∃(g:Nat)(n1:Bool)(a1:OA)(l1 c1:Nat)(n2:Bool)(a2:OA)(l2 c2:Nat),p=pT g 0/\base<=g/\zaU W g (.bool n1) (.slice a1 l1 c1) (.bool n2) (.slice a2 l2 c2)/\R W (.agg #[.bool n1,.slice a1 l1 c1,.bool n2,.slice a2 l2 c2]):=by
 obtain⟨b,e,h1,_,h3,_⟩:=h;obtain⟨x0,x1,x2,x3,B,hr⟩:=h3 hs;obtain⟨ng,ao,n,cap,J2,ao2,n2,Y2,e2⟩:=(hV _ hr).parts;simp only[Value.agg.injEq,Array.mk.injEq,List.cons.injEq,and_true]at e2;obtain⟨rfl,rfl,rfl,rfl⟩:=e2;exact⟨b,ng,ao,n,cap,J2,ao2,n2,Y2,e,h1,B,hr⟩
abbrev Qo:=Option Rat
def QV(w:Wo)(v:Vl):Option Rat->Prop
 |some r=>zad w v r
 |none=>VQ w v false
theorem QV.mono{w:Wo}{o:Option Rat}(h:QV w v o)(hb:BH w w'):QV w' v o:=by
 cases o
 ·exact VQ.mono h hb
 ·exact zad.mono h hb
theorem QV.parts{w:Wo}{o:Option Rat}(h:QV w v o):∃(ng:Bool)(ao:OA)(n cap:Nat)(J2:Bool)(ao2:OA)(n2 Y2:Nat),v=.agg #[.bool ng,.slice ao n cap,.bool J2,.slice ao2 n2 Y2]:=by
 cases o
 ·exact VQ.parts h
 ·exact zad.parts h
theorem QV.vq{w:Wo}{o:Option Rat}(h:QV w v o):VQ w v o.isSome:=by
 cases o
 ·exact h
 ·exact zad.vq h
structure zft(w:Wo)(b o:Nat)(x0 x1 x2 x3:Vl):Prop where
 c0:w.cell? (aD_ b o)=some x0
 c1:w.cell? ⟨b,o+1,none⟩=some x1
 c2:w.cell? ⟨b,o+2,none⟩=some x2
 c3:w.cell? ⟨b,o+3,none⟩=some x3
 f0:True
 f1:True
 f2:True
 f3:True
theorem zft.lt{w:Wo}{b o:Nat}(h:zft w b o x0 x1 x2 x3):b<w.heap.size:=zaf h.c0
theorem zft.mono{w:Wo}{b o:Nat}(h:zft w b o x0 x1 x2 x3)(hb:BH w w'):zft w' b o x0 x1 x2 x3 :=
 ⟨(hb.cell (p:=⟨b,o,none⟩) h.lt).trans h.c0,(hb.cell (p:=⟨b,o+1,none⟩) h.lt).trans h.c1,(hb.cell (p:=⟨b,o+2,none⟩) h.lt).trans h.c2,(hb.cell (p:=⟨b,o+3,none⟩) h.lt).trans h.c3,trivial,trivial,trivial,trivial⟩
def UQ(w:Wo)(ao:OA)(l:List (Option Rat)):Prop :=
 ∀i o,l[i]?=some o->∃(b off:Nat)(n1:Bool)(a1:OA)(l1 c1:Nat)(n2:Bool)(a2:OA)(l2 c2:Nat),ao=sD b off /\
  zft w b (off+i*4) (.bool n1) (.slice a1 l1 c1) (.bool n2) (.slice a2 l2 c2) /\
  QV w (.agg #[.bool n1,.slice a1 l1 c1,.bool n2,.slice a2 l2 c2]) o
theorem UQ.mono{w:Wo}{l:List (Option Rat)}(h:UQ w ao l)(hb:BH w w'):UQ w' ao l:=by
 intro i o hi;obtain⟨b,off,n1,a1,l1,c1,n2,a2,l2,c2,e,h0,hq⟩:=h i o hi;exact⟨b,off,n1,a1,l1,c1,n2,a2,l2,c2,e,h0.mono hb,hq.mono hb⟩
theorem UQ.nil(w:Wo)(ao:OA):UQ w ao []:=λi o h=>by simp at h
def ziS:Rat->List Rat->List Rat->Option Rat->Prop
 |acc,a :: l,b :: m,o=>(zeN a b/\zcI acc (a*b)/\ziS (acc+a*b) l m o)\/(¬(zeN a b/\zcI acc (a*b))/\o=none)
 |acc,_,_,o=>o=some acc
def zmd(o:Option Rat)(w':Wo)(e:Ending):Prop :=
 match o with
 |some r=>zb3 w' r e
 |none=>NoQ 3 e
theorem zmd.got{r:Rat}{o:Option Rat}(ho:Hid (o=some r))(h:zb3 w' r e):zmd o w' e:=by rw[ho.o];exact h
theorem zmd.no{o:Option Rat}(ho:Hid (o=none))(h:NoQ 3 e):zmd o w' e:=by rw[ho.o];exact h
theorem zjW{α:Type}{l:List α}{a:α}(h:l[k]?=some a):l.drop k=a :: l.drop (k+1):=by
 obtain⟨hk,rfl⟩:=List.getElem?_eq_some_iff.1 h;exact List.drop_eq_getElem_cons hk
theorem zaU.put4I{w:Wo}{n:Nat}(h:zaU w n x0 x1 x2 x3)(y0 y1 y2 y3:Vl):zaU ((((w.setCell (aD_ n 0) y0).setCell (aD_ n 1) y1).setCell (aD_ n 2) y2).setCell (aD_ n 3) y3) n y0 y1 y2 y3:=h.set4Z y0 y1 y2 y3
def zpF(u:Vl)(_:Wo)(v:Vl):Prop:=v=u
theorem zpF.parts(h:zpF (.agg #[bF_,nS_,bF_,nS_]) W v):∃(ng:Bool)(ao:OA)(n cap:Nat)(J2:Bool)(ao2:OA)(n2 Y2:Nat),v=.agg #[.bool ng,.slice ao n cap,.bool J2,.slice ao2 n2 Y2]:=⟨_,_,_,_,_,_,_,_,h⟩
def zaJ(u:Vl):Prop:=∀k z,u≠.int k z
def NoI(w:Wo)(v:Vl):Prop:=∀g,v.ownBlock=some g->∀cur t fr,w.heap[g]?=some (.cells cur t fr)->∀u∈cur.toList,zaJ u
theorem zdu{z:Array Vl}{n:Nat}{u:Vl}(h:u∈(Builtin.zeroCells z n).toList):u∈z.toList:=by
 unfold Builtin.zeroCells at h;simp only[Array.toList_map,List.mem_map]at h;obtain⟨i,hi,rfl⟩:=h;have hpos:0<z.size:=by
  simp at hi;rcases Nat.eq_zero_or_pos z.size with h0|h0
  ·rw[h0]at hi;omega
  ·exact h0
 have hlt:=Nat.mod_lt i hpos;rw[getElem!_pos z _ hlt];exact Array.mem_toList_iff.2 (Array.getElem_mem hlt)
theorem zdS(w:Wo)(cur:Array Vl)(e:TypeId)(n c:Nat)(h:∀u∈cur.toList,zaJ u):NoI (w.alloc (.cells cur e)) (.slice (some ⟨w.heap.size,0,none⟩) n c):=by
 intro g hg cur' t fr hc;simp only[Value.ownBlock,Option.some.injEq]at hg;subst hg;rw[heap_alloc_new]at hc;simp only[Option.some.injEq,Obj.cells.injEq]at hc;obtain⟨rfl,_,_⟩:=hc;exact h
section
variable {P : Program} {ops : Array Oper} {rest : List Oper} {o : Oper} {a : Act} {Q : Exit → Act → Wo → Prop}
theorem zcx(w:Wo)(base:Nat)(t ty e:TypeId)(i:TypeInfo)(z:Vl)(ht:P.underlying t=some (.slice e))(hi:P.info? e=some i)(hz:i.zero=some z)
  (hzs:z.cells.size=i.size)(hsz:0<i.size)(v:Vl)(n:Nat)(xs:List Vl)(hown:w.ownsRow base e i.size v n xs)(hp:NoI w v)
  (a:Addr)(m c:Nat)(news:List Vl)(hl:news.length=m*i.size)(hnews:∀j u,news[j]?=some u->w.cell? (a.add j)=some u)(h1:∀u∈news,u.oneCell'=true)
  (h63:n+m<=maxLen)(hbytes:(n+m)*i.bytes<=140737488355328)(hbase:base<=w.heap.size)(hm:0<m)(hzn:∀u∈z.cells.toList,zaJ u)(hnn:∀u∈news,zaJ u) :
  ∃v' w',(Builtin.append_ #[t,t] ty #[v,.slice (some a) m c]).run P w=.ok v' w'/\w'.ownsRow base e i.size v' (n+m) (xs++news)/\w.grownBy w' v.ownBlock/\NoI w' v':=by
 obtain⟨v',w',hr,h2,h3,h4⟩:=run_append_own (P:=P) w base t ty e i z i.size i.bytes ht hi hz rfl rfl hzs hsz v n xs hown a m c news hl hnews h1 h63 hbytes hbase;refine⟨v',w',hr,h2,h3,?_⟩;have hm63:n+m<=9223372036854775807:=by simp only[maxLen]at h63;omega
 rcases hown.2 with⟨rfl,rfl⟩|⟨g,cap,cur,rfl,hbg,hg,hnc,hcm,hcs,htake⟩
 ·have hr2:=run_append_nil (P:=P) w t ty e i z ht hi hz a m c news hl hnews hm oM (by have hb:=hbytes;simp only[Nat.zero_add]at hb;omega);have he:=hr.symm.trans hr2;simp only[Result.ok.injEq]at he;obtain⟨rfl,rfl⟩:=he;refine zdS w.drew _ e _ _ λu hu=>?_
  simp only[Array.toList_append,List.mem_append]at hu;rcases hu with hu|hu
  ·exact hnn u (by simpa using hu)
  ·exact hzn u (zdu hu)
 ·by_cases hroom:n+m<=cap
  ·have hfit:n*i.size+news.length<=cur.size:=by rw[hl,hcs,<-Nat.add_mul];exact Nat.mul_le_mul_right _ hroom
   have hr2:=run_append_room (P:=P) w t ty e i ht hi g n cap cur hg a m c news hl hnews h1 hroom hfit;have he:=hr.symm.trans hr2;simp only[Result.ok.injEq]at he;obtain⟨rfl,rfl⟩:=he;intro g' hg' cur' t' fr' hc';simp only[Value.ownBlock,Option.some.injEq]at hg';subst hg';rw[setRow_heap w g cur _ e _ hg]at hc';simp only[Option.some.injEq,Obj.cells.injEq]at hc';obtain⟨rfl,_,_⟩:=hc';have hcur:=hp g rfl cur e _ hg;intro u hu;simp only[List.mem_append]at hu;rcases hu with(hu|hu)|hu
   ·exact hcur u (List.mem_of_mem_take hu)
   ·exact hnn u hu
   ·exact hcur u (List.mem_of_mem_drop hu)
  ·have holds:∀j u,xs[j]?=some u->w.cell? ((⟨g,0,none⟩:Addr).add j)=some u:=hown.cells (g:=g) rfl;have hr2:=run_append_grow (P:=P) w t ty e i z ht hi hz ⟨g,0,none⟩ n cap xs hown.1 holds a m c news hl hnews oM oM (growslice_fits oM hbytes);have he:=hr.symm.trans hr2;simp only[Result.ok.injEq]at he;obtain⟨rfl,rfl⟩:=he;have hcur:=hp g rfl cur e _ hg;refine zdS w.drew _ e _ _ λu hu=>?_
   simp only[Array.toList_append,List.mem_append]at hu;rcases hu with(hu|hu)|hu
   ·have:u∈xs:=by simpa using hu
    rw[<-htake]at this;exact hcur u (List.mem_of_mem_take this)
   ·exact hnn u (by simpa using hu)
   ·exact hzn u (zdu hu)
end
theorem U.grown{w:Wo}(h:U w ao l)(hg:w.grownBy w' v.ownBlock)(hp:NoI w v):U w' ao l:=by
 intro i hi;obtain⟨b,off,e,hc⟩:=h i hi;refine⟨b,off,e,?_⟩;have hlt:b<w.heap.size:=zaf hc
 by_cases hb:v.ownBlock=some b
 ·exfalso
  unfold World.cell? at hc;simp only at hc
  cases ho:w.heap[b]? with
  |none=>rw[ho]at hc;simp at hc
  |some ob=>
   rw[ho]at hc
   cases ob with
   |cells cur t fr=>
    exact d7
   |_=>simp at hc
 ·exact hg.cell (a:=⟨b,off+i,none⟩) hc (λe=>hb e.symm)
theorem zai.grown{w:Wo}{u:Vl}{z:Int}(h:zai w u z)(hg:w.grownBy w' v.ownBlock)(hp:NoI w v):zai w' u z:=by
 obtain⟨n1,ao1,L1,c1,rfl,Hn1,HL1,HB1,hc1,hl1,hU1⟩:=h;exact⟨n1,ao1,L1,c1,rfl,Hn1,HL1,HB1,hc1,hl1,hU1.grown hg hp⟩
theorem zad.grown{w:Wo}{u:Vl}{r:Rat}(h:zad w u r)(hg:w.grownBy w' v.ownBlock)(hp:NoI w v):zad w' u r:=by
 obtain⟨n1,a1,l1,c1,n2,a2,l2,c2,e,h1,h2⟩:=h;exact⟨n1,a1,l1,c1,n2,a2,l2,c2,e,h1.grown hg hp,h2.grown hg hp⟩
def znn(w:Wo)(B:Nat)(v:Vl)(l:List Rat):Prop :=
 ∃xs:List Vl,w.ownsRow B 32 4 v l.length xs/\NoI w v /\
  ∀(i:Nat)(r:Rat),l[i]?=some r->∃(n1:Bool)(a1:OA)(l1 c1:Nat)(n2:Bool)(a2:OA)(l2 c2:Nat),
   xs[i*4]?=some (.bool n1)/\xs[i*4+1]?=some (.slice a1 l1 c1)/\xs[i*4+2]?=some (.bool n2)/\xs[i*4+3]?=some (.slice a2 l2 c2)/\zad w (qA n1 a1 l1 c1 n2 a2 l2 c2) r
theorem znn.nil(w:Wo)(B:Nat):znn w B nS_ [] :=
 ⟨[],World.ownsRow_nil _ _ _ _,λg hg=>by simp[Value.ownBlock]at hg,λi r h=>by simp at h⟩
theorem zbu{w:Wo}{B e size n:Nat}(h:w.ownsRow B e size v n xs)(hb:BH w w'):w'.ownsRow B e size v n xs:=by
 refine⟨h.1,h.2.imp id ?_⟩;rintro⟨g,cap,cur,hv,hB,hg,r⟩;have hlt:g<w.heap.size:=(Array.getElem?_eq_some_iff.1 hg).1;exact⟨g,cap,cur,hv,hB,(hb.block _ hlt).trans hg,r⟩
theorem znn.mono{w:Wo}{B:Nat}{l:List Rat}(h:znn w B v l)(hb:BH w w'):znn w' B v l:=by
 obtain⟨xs,h1,h2,h3⟩:=h;refine⟨xs,zbu h1 hb,?_,?_⟩
 ·intro g hg cur t fr hc;have hlt:=(h1.lt g hg).2;exact h2 g hg cur t fr ((hb.block _ hlt).symm.trans hc)
 ·intro i r hi;obtain⟨n1,a1,l1,c1,n2,a2,l2,c2,e0,e1,e2,e3,hr⟩:=h3 i r hi;exact⟨n1,a1,l1,c1,n2,a2,l2,c2,e0,e1,e2,e3,hr.mono hb⟩
theorem znn.read{w:Wo}{B:Nat}{l:List Rat}(h:znn w B v l):∃ao cap,v=.slice ao l.length cap/\UQ w ao (l.map some):=by
 obtain⟨xs,h1,h2,h3⟩:=h;rcases h1.2 with⟨rfl,hn⟩|⟨g,cap,cur,rfl,hB,hg,hnc,hcm,hcs,htake⟩
 ·have:l=[]:=List.eq_nil_of_length_eq_zero hn;subst this;exact⟨none,0,rfl,UQ.nil _ _⟩
 ·refine⟨some ⟨g,0,none⟩,cap,rfl,?_⟩;intro i o hi;rw[List.getElem?_map]at hi;obtain⟨r,hr,rfl⟩:=Option.map_eq_some_iff.1 hi;obtain⟨n1,a1,l1,c1,n2,a2,l2,c2,e0,e1,e2,e3,hq⟩:=h3 i r hr;have hc:∀j u,xs[j]?=some u->w.cell? ⟨g,0+j,none⟩=some u:=by
   intro j u hu;have:=h1.cells (g:=g) rfl j u hu;have ha:(⟨g,0,none⟩:Addr).add j=⟨g,0+j,none⟩:=by
    unfold Addr.add;split
    ·subst j;rfl
    ·rfl
   rw[ha]at this;exact this
  exact dI
theorem Tryz.info32:(Tryz.prog.info? 32).map (λi=>(i.zero,i.size,i.bytes))=some (some (.agg #[bF_,nS_,bF_,nS_]),4,64):=by kernel_rfl
theorem zg1{w:Wo}{o:Obj}(h:w.heap[g]?=some o):g<w.heap.size:=by
 by_cases hb:g<w.heap.size
 ·exact hb
 ·rw[Array.getElem?_eq_none oM]at h;cases h
structure zah(G:Nat->Prop)(w w':Wo):Prop where
 os:w'.os=w.os
 tape:w'.tape=w.tape
 output:w'.output=w.output
 size:w.heap.size<=w'.heap.size
 block:∀k,k<w.heap.size->¬G k->w'.heap[k]?=w.heap[k]?
section
variable {G : Nat → Prop}
theorem zah.refl(w:Wo):zah G w w:=⟨rfl,rfl,rfl,nl,λ_ _ _=>rfl⟩
theorem zah.trans{a b c:Wo}(h:zah G a b)(k:zah G b c):zah G a c :=
 ⟨k.os.trans h.os,k.tape.trans h.tape,k.output.trans h.output,Nat.le_trans h.size k.size,λi hi hg=>(k.block i (Nat.lt_of_lt_of_le hi h.size) hg).trans (h.block i hi hg)⟩
theorem zah.of_below{w w':Wo}(h:BH w w'):zah G w w':=⟨h.os,h.tape,h.output,h.size,λk hk _=>h.block k hk⟩
theorem zah.drew{a w:Wo}(h:zah G a w):zah G a w.drew:=⟨h.os,h.tape,h.output,h.size,h.block⟩
theorem zah.alloc{a w:Wo}(h:zah G a w)(o:Obj):zah G a (w.alloc o):=h.trans (.of_below (bA w o))
theorem zah.setCell{a w:Wo}(h:zah G a w){p:Addr}(hp:G p.block)(u:Vl):zah G a (w.setCell p u) :=
 h.trans ⟨rfl,rfl,rfl,by simp[World.setCell],λk _ hg=>Below.heap_setCell _ _ _ _ (λe=>hg (e▸hp))⟩
theorem zah.below{B:Nat}{w w':Wo}(h:zah G w w')(hG:∀b,G b->B<=b)(hB:B<=w.heap.size):Below B w w' :=
 ⟨h.os,h.tape,h.output,h.size,λk hk=>h.block k oM (λhg=>by have:=hG k hg;omega)⟩
theorem zah.cell{w w':Wo}(h:zah G w w'){p:Addr}{v:Vl}(hc:w.cell? p=some v)(hp:¬G p.block):w'.cell? p=some v :=
 (World.cell?_of_block (w:=w) (h.block p.block (zaf hc) hp)).trans hc
theorem zah.heap{w w':Wo}(h:zah G w w'){g:Nat}{o:Obj}(hc:w.heap[g]?=some o)(hp:¬G g):w'.heap[g]?=some o :=
 (h.block g (zg1 hc) hp).trans hc
end
def Row(w:Wo)(g:Nat)(E:TypeId)(xs:List Vl):Prop:=w.heap[g]?=some (.cells xs.toArray E (0,0))
theorem Row.lt{w:Wo}{E:TypeId}(h:Row w g E xs):g<w.heap.size:=zg1 h
theorem Row.mono{w:Wo}{E:TypeId}(h:Row w g E xs)(hk:zah G w w')(hg:¬G g):Row w' g E xs:=hk.heap h hg
theorem Row.below{w:Wo}{E:TypeId}(h:Row w g E xs)(hk:BH w w'):Row w' g E xs:=(hk.block g h.lt).trans h
theorem Row.cell{w:Wo}{E:TypeId}(h:Row w g E xs)(hk:k<xs.length):w.cell? (aD_ g k)=some xs[k]:=by
 unfold Row at h;simp[World.cell?,h,hk]
theorem Row.free{w:Wo}{E:TypeId}(h:Row w g E xs)(k:Nat):w.frozen? ⟨g,k,none⟩=false:=by
 unfold Row at h;simp[World.frozen?,h]
theorem Row.set{w:Wo}{E:TypeId}(h:Row w g E xs)(k:Nat)(x:Vl):Row (w.setCell (aD_ g k) x) g E (xs.set k x):=by
 unfold Row at*;rw[setCell_eq_setRow w g k _ E (0,0) x h,setRow_heap w g _ _ E _ h];simp
theorem Row.n3{w:Wo}{E:TypeId}{x y z:Vl}(h:Row w g E [x,y,z]):w.cell? (aD_ g 0)=some x/\w.cell? (aD_ g 1)=some y/\w.cell? (aD_ g 2)=some z :=
 ⟨h.cell (k:=0) sM,h.cell (k:=1) sM,h.cell (k:=2) sM⟩
theorem Row.n4{w:Wo}{E:TypeId}{x y z u:Vl}(h:Row w g E [x,y,z,u]):w.cell? (aD_ g 0)=some x/\w.cell? (aD_ g 1)=some y/\w.cell? (aD_ g 2)=some z/\w.cell? (aD_ g 3)=some u :=
 ⟨h.cell (k:=0) sM,h.cell (k:=1) sM,h.cell (k:=2) sM,h.cell (k:=3) sM⟩
end Go.Proofs.YtfgffkmddanjjaaGreatDoor
namespace Rq
theorem zgn{x d:Int}(hd:d≠0):(Rat.divInt x d).num.natAbs<=x.natAbs/\(Rat.divInt x d).den<=d.natAbs:=by
 have h1:=num_of (p:=x) hd;have h2:=den_of (p:=x) hd
 constructor
 ·rw[<-h1,Int.natAbs_tdiv];exact Nat.div_le_self _ _
 ·have:(Rat.divInt x d).den=(d.tdiv (gS x d)).natAbs:=by rw[h2,Int.natAbs_natCast]
  rw[this,Int.natAbs_tdiv];exact Nat.div_le_self _ _
def Bd(r:Rat)(N D:Nat):Prop:=r.num.natAbs<=N/\r.den<=D
theorem bd_of{x d:Int}{N D:Nat}(hd:d≠0)(h1:x.natAbs<=N)(h2:d.natAbs<=D):Bd (Rat.divInt x d) N D :=
 ⟨Nat.le_trans (zgn hd).1 h1,Nat.le_trans (zgn hd).2 h2⟩
theorem mul_bd{x y:Int}{A B:Nat}(h1:x.natAbs<=A)(h2:y.natAbs<=B):(x*y).natAbs<=A*B:=by
 rw[Int.natAbs_mul];exact Nat.mul_le_mul h1 h2
theorem dd_ne'(a b:Rat):(a.den:Int)*(b.den:Int)≠0:=Int.mul_ne_zero (den_ne a) (den_ne b)
theorem bd_dd{a b:Rat}{N M D E:Nat}(h1:Bd a N D)(h2:Bd b M E):((a.den:Int)*(b.den:Int)).natAbs<=D*E :=
 mul_bd (by rw[Int.natAbs_natCast];exact h1.2) (by rw[Int.natAbs_natCast];exact h2.2)
theorem bd_x{a b:Rat}{N M D E:Nat}(h1:Bd a N D)(h2:Bd b M E):(a.num*(b.den:Int)).natAbs<=N*E :=
 mul_bd h1.1 (by rw[Int.natAbs_natCast];exact h2.2)
theorem bd_mul{a b:Rat}{N M D E:Nat}(h1:Bd a N D)(h2:Bd b M E):Bd (a*b) (N*M) (D*E):=by
 rw[<-mul_eq];exact bd_of (dd_ne' a b) (mul_bd h1.1 h2.1) (bd_dd h1 h2)
end Rq
namespace Du
def sm:Nat->(Nat->Rat)->Rat
 |0,_=>0
 |n+1,f=>sm n f+f n
theorem zcR(n:Nat)(f g:Nat->Rat):sm n (λk=>f k+g k)=sm n f+sm n g:=by
 induction n with
 |zero=>simp only[sm];grind
 |succ n ih=>simp only[sm,ih];grind
theorem zhr(n:Nat)(f g:Nat->Rat):sm n (λk=>f k-g k)=sm n f-sm n g:=by
 induction n with
 |zero=>simp only[sm];grind
 |succ n ih=>simp only[sm,ih];grind
theorem zb2(n:Nat)(c:Rat)(f:Nat->Rat):sm n (λk=>c*f k)=c*sm n f:=by
 induction n with
 |zero=>simp only[sm];grind
 |succ n ih=>simp only[sm,ih];grind
theorem sm_zero(n:Nat):sm n (λ_=>0)=0:=by
 induction n with
 |zero=>rfl
 |succ n ih=>simp only[sm,ih];grind
theorem sm_congr(n:Nat)(f g:Nat->Rat)(h:∀k,k<n->f k=g k):sm n f=sm n g:=by
 induction n with
 |zero=>rfl
 |succ n ih=>simp only[sm];rw[ih (λk hk=>h k oM),h n oM]
theorem sm_le(n:Nat)(f g:Nat->Rat)(h:∀k,k<n->f k<=g k):sm n f<=sm n g:=by
 induction n with
 |zero=>simp only[sm];grind
 |succ n ih=>simp only[sm];have:=ih (λk hk=>h k oM);have:=h n oM;grind
theorem sm_nonneg(n:Nat)(f:Nat->Rat)(h:∀k,k<n->0<=f k):0<=sm n f:=by
 have:=sm_le n (λ_=>0) f h
 rwa [sm_zero]at this
theorem sm_swap(m n:Nat)(y x:Nat->Rat)(A:Nat->Nat->Rat):sm m (λi=>y i*sm n (λk=>A i k*x k))=sm n (λk=>x k*sm m (λi=>A i k*y i)):=by
 induction m with
 |zero=>
  show(0:Rat)=sm n (λk=>x k*0)
  exact(sm_zero n).symm.trans (sm_congr _ _ _ λk _=>by grind)
 |succ m ih=>
  simp only[sm];rw[ih,<-zb2,<-zcR];exact sm_congr _ _ _ λk _=>by grind
structure Sol(m n:Nat)(A:Nat->Nat->Rat)(b x:Nat->Rat):Prop where
 pos:∀k,k<n->0<=x k
 row:∀i,i<m->sm n (λk=>A i k*x k)<=b i
structure Pri(m n:Nat)(A:Nat->Nat->Rat)(c y:Nat->Rat):Prop where
 pos:∀i,i<m->0<=y i
 col:∀k,k<n->c k<=sm m (λi=>A i k*y i)
section
variable {m n : Nat} {A : Nat → Nat → Rat} {b c x y : Nat → Rat}
theorem zoi:sm m (λi=>b i*y i)-sm n (λk=>c k*x k)=sm m (λi=>y i*(b i-sm n (λk=>A i k*x k)))+sm n (λk=>x k*(sm m (λi=>A i k*y i)-c k)):=by
 have e1:sm m (λi=>y i*(b i-sm n (λk=>A i k*x k)))=sm m (λi=>b i*y i)-sm m (λi=>y i*sm n (λk=>A i k*x k)):=by
  rw[<-zhr];exact sm_congr _ _ _ λk _=>by grind
 have e2:sm n (λk=>x k*(sm m (λi=>A i k*y i)-c k))=sm n (λk=>x k*sm m (λi=>A i k*y i))-sm n (λk=>c k*x k):=by
  rw[<-zhr];exact sm_congr _ _ _ λk _=>by grind
 rw[e1,e2,sm_swap]
 grind
theorem zmt(hs:Sol m n A b x)(hp:Pri m n A c y):∀i,i<m->0<=y i*(b i-sm n (λk=>A i k*x k)):=λi hi=>
 Rat.mul_nonneg (hp.pos i hi) (by have:=hs.row i hi;grind)
theorem zmW(hs:Sol m n A b x)(hp:Pri m n A c y):∀k,k<n->0<=x k*(sm m (λi=>A i k*y i)-c k):=λk hk=>
 Rat.mul_nonneg (hs.pos k hk) (by have:=hp.col k hk;grind)
theorem weak(hs:Sol m n A b x)(hp:Pri m n A c y):0<=sm m (λi=>b i*y i)-sm n (λk=>c k*x k):=by
 rw[zoi (A:=A)];have h1:=sm_nonneg m _ (zmt hs hp);have h2:=sm_nonneg n _ (zmW hs hp)
 grind
theorem ray_none(hx:∀k,k<n->0<=x k)(hr:∀i,i<m->sm n (λk=>A i k*x k)<=0)(hc:0<sm n (λk=>c k*x k))(hp:Pri m n A c y):False:=by
 have hs:Sol m n A (λ_=>0) x:=⟨hx,hr⟩;have h:=weak hs hp;have e:sm m (λi=>(0:Rat)*y i)=0:=(sm_congr m _ (λ_=>0) λk _=>by grind).trans (sm_zero m);rw[e]at h
 grind
end
def dotR:List Rat->List Rat->Rat
 |a :: l,b :: m=>a*b+dotR l m
 |_,_=>0
end Du
namespace Go.Proofs.YtfgffkmddanjjaaGreatDoor
open _root_.Go.Proofs.Tryz
open Go.RowKit
variable {e:Ending} {l:LN} {xs:List Vl} {g k:Nat} {G:Nat->Prop} {ao:OA} {p v x0 x1 x2 x3:Vl} {W w':Wo}
section
variable {P : Program} {ops : Array Oper} {Q : Exit → Act → Wo → Prop}
theorem zah.wide{G H:Nat->Prop}{w w':Wo}(h:zah G w w')(hG:∀b,G b->H b):zah H w w':=⟨h.os,h.tape,h.output,h.size,λk hk hn=>h.block k hk λhg=>hn (hG k hg)⟩
def dv(ds:List (Option Nat))(T:Nat->Vl)(k:Nat):Vl:=((ds.getD k none).map T).getD undef
def znA(Fs:List (FW))(ds:List (Option Nat))(T:Nat->Vl)(W:Wo):LN->Prop
 |[]=>True
 |k :: r=>(Fs.getD k λ_ _=>True) W (dv ds T k)/\znA Fs ds T W r
theorem znA.of{Fs:List (FW)}{ds:List (Option Nat)}{T:Nat->Vl}{W:Wo}:∀{l:LN} (k:Nat),znA Fs ds T W l->k∈l->(Fs.getD k λ_ _=>True) W (dv ds T k)
 |[],_,_,h=>by simp at h
 |x :: r,k,h,hk=>by
  rcases List.mem_cons.1 hk with rfl|hk
  ·exact h.1
  ·exact znA.of k h.2 hk
theorem znA.at{Fs:List (FW)}{ds:List (Option Nat)}{T:Nat->Vl}{W:Wo}{n:Nat}(k:Nat)(h:znA Fs ds T W (List.range n))(hk:k<n):(Fs.getD k λ_ _=>True) W (dv ds T k) :=
 znA.of k h (by simpa using hk)
def Oth(es:Nat->Option Nat)(k:Nat)(b:Nat):Prop:=∃i,i≠k/\es i=some b
def Any(es:Nat->Option Nat)(b:Nat):Prop:=∃i,es i=some b
theorem Oth.any{es:Nat->Option Nat}{k b:Nat}(h:Oth es k b):Any es b:=by obtain⟨i,_,h⟩:=h;exact⟨i,h⟩
def zow(H:Nat->Prop)(F:FW):Prop:=∀(W W':Wo)(v:Vl),F W v->zah H W W'->F W' v
def zoV(es:Nat->Option Nat):Nat->List (FW)->Prop
 |_,[]=>True
 |k,F :: r=>zow (Oth es k) F/\zoV es (k+1) r
theorem zoV.get{es:Nat->Option Nat}:∀{l:List (FW)} (j k:Nat),zoV es j l->zow (Oth es (j+k)) (l.getD k λ_ _=>True)
 |[],_,_,_=>λ_ _ _ _ _=>trivial
 |_ :: _,_,0,h=>h.1
 |_ :: r,j,k+1,h=>by have:=zoV.get (l:=r) (j+1) k h.2;rw[show j+(k+1)=j+1+k by omega];exact this
theorem zbJ:∀{ds:List (Option Nat)},(ds.filterMap id).Nodup->∀{i k d:Nat},ds.getD i none=some d->ds.getD k none=some d->i=k
 |[],_,i,k,d,h,_=>by simp at h
 |none :: r,hn,i,k,d,h1,h2=>by
  have hn':(r.filterMap id).Nodup:=by simpa using hn
  match i,k with
  |0,_=>simp at h1
  |_,0=>simp at h2
  |i+1,k+1=>rw[zbJ hn' (i:=i) (k:=k) (by simpa using h1) (by simpa using h2)]
 |some x :: r,hn,i,k,d,h1,h2=>by
  have hn':x ∉ r.filterMap id/\(r.filterMap id).Nodup:=by simpa using hn
  have mem:∀j,r.getD j none=some d->d∈r.filterMap id:=by
   intro j hj;refine List.mem_filterMap.2 ⟨some d,?_,rfl⟩;rw[List.getD_eq_getElem?_getD]at hj
   cases hg:r[j]? with
   |none=>rw[hg]at hj;simp at hj
   |some y=>rw[hg]at hj;simp at hj;subst hj;exact List.mem_of_getElem? hg
  match i,k with
  |0,0=>rfl
  |0,k+1=>
   simp at h1;subst h1;exact absurd (mem k (by simpa using h2)) hn'.1
  |i+1,0=>
   simp at h2;subst h2;exact absurd (mem i (by simpa using h1)) hn'.1
  |i+1,k+1=>rw[zbJ hn'.2 (i:=i) (k:=k) (by simpa using h1) (by simpa using h2)]
end
section
variable {P : Program} {ops : Array Oper} {Q : Exit → Act → Wo → Prop}
def zmD(W:Wo)(n:Nat):Nat->List Vl->Wo
 |_,[]=>W
 |k,v :: r=>zmD (W.setCell (aD_ n k) v) n (k+1) r
theorem zfV(n:Nat):∀(vs:List Vl)(k:Nat)(W:Wo),zah (λb=>b=n) W (zmD W n k vs)
 |[],_,W=>zah.refl W
 |v :: r,k,W=>((zah.refl W).setCell (G:=λb=>b=n) (p:=⟨n,k,none⟩) rfl v).trans (zfV n r (k+1) _)
theorem zhF{n:Nat}{E:TypeId}:∀(vs xs pre:List Vl)(W:Wo),Row W n E (pre++xs)->vs.length=xs.length->Row (zmD W n pre.length vs) n E (pre++vs)
 |[],xs,pre,W,h,hl=>by
  have:xs=[]:=List.eq_nil_of_length_eq_zero hl.symm;subst this;exact h
 |v :: r,[],pre,W,h,hl=>by simp at hl
 |v :: r,x :: xs,pre,W,h,hl=>by
  have h1:=h.set pre.length v;have e:(pre++x :: xs).set pre.length v=(pre++[v])++xs:=sM;rw[e]at h1;have:=zhF r xs (pre++[v]) _ h1 (by simpa using hl);simp only[List.length_append,List.length_singleton,List.append_assoc,List.singleton_append]at this;exact this
structure Fb where
 st:Nat
 src:Nat
 E:TypeId
 z:List Vl
def Sto(v:Vl)(vs:List Vl):Prop:=v=.agg vs.toArray\/vs=[v]
abbrev zef:=(Nat->Prop)->(Nat->Vl)->Wo->Prop
def zeR(ops:Array Oper)(k:Nat):LN:=k :: ((ops[k]?).map λo=>zaV .any o).getD []
def zfv(Fs:List zef)(G:Nat->Prop)(X:Nat->Vl)(W:Wo):LN->Prop
 |[]=>True
 |k :: r=>(Fs.getD k λ_ _ _=>True) G X W/\zfv Fs G X W r
theorem yB:(∀Fs G X W,zfv Fs G X W []=True)/\(∀Fs G X W k r,zfv Fs G X W (k::r)=((Fs.getD k fun _ _ _=>True) G X W/\zfv Fs G X W r))/\(∀ds T k,dv ds T k=((ds.getD k none).map T).getD undef)/\(∀(x:zef) l d,(x::l).getD 0 d=x)/\(∀(x:zef) l k d,(x::l).getD (k+1) d=l.getD k d)/\(∀(x:Option Nat) l d,(x::l).getD 0 d=x)/\(∀(x:Option Nat) l k d,(x::l).getD (k+1) d=l.getD k d)/\(∀(T:Nat->Vl) k d,((some k).map T).getD d=T k):=
 ⟨fun _ _ _ _=>rfl,fun _ _ _ _ _ _=>rfl,fun _ _ _=>rfl,fun _ _ _=>rfl,fun _ _ _ _=>rfl,fun _ _ _=>rfl,fun _ _ _ _=>rfl,fun _ _ _=>rfl⟩
theorem tX{p:Prop}(h:p:=by rintro-G T W hb hHG hGW hGo hNG hA K hK;simp only[yA,yB,Region.binds]at hA;simp only[sA,hA]at hK|-;have HK:=hii hK;clear hK hA;refine wO rfl ?_;go_simp;exact HK.o _ _ br λX hX _=>hX):p:=h
theorem zfv.mem{Fs:List zef}{G:Nat->Prop}{X:Nat->Vl}{W:Wo}:∀{l:LN},(∀k∈l,(Fs.getD k λ_ _ _=>True) G X W)->zfv Fs G X W l
 |[],_=>trivial
 |k :: r,h=>⟨h k sM,zfv.mem λx hx=>h x (by simp[hx])⟩
theorem zfv.of{Fs:List zef}{G:Nat->Prop}{X:Nat->Vl}{W:Wo}:∀{l:LN} (k:Nat),zfv Fs G X W l->k∈l->(Fs.getD k λ_ _ _=>True) G X W
 |[],_,_,h=>by simp at h
 |x :: r,k,h,hk=>by
  rcases List.mem_cons.1 hk with rfl|hk
  ·exact h.1
  ·exact zfv.of k h.2 hk
theorem zfv.at{Fs:List zef}{G:Nat->Prop}{X:Nat->Vl}{W:Wo}{n:Nat}(k:Nat)(h:zfv Fs G X W (List.range n))(hk:k<n):(Fs.getD k λ_ _ _=>True) G X W :=
 zfv.of k h (by simpa using hk)
def zcu(al:List (Option Fb))(ops:Array Oper):Bool :=
 (List.range al.length).all λi=>match al.getD i none with
  |none=>true
  |some fb=>decide (i<ops.size) && decide (fb.st<ops.size) && decide (fb.src<ops.size) && ((ops[fb.st]?).map λo=>(zaV .any o).contains i && (zaV .any o).contains fb.src && o.dst.isNone).getD false &&
   ((ops[i]?).map λo=>o.dst.isSome).getD false && (al.getD fb.st none).isNone && (al.getD fb.src none).isNone &&
   (List.range al.length).all λj=>match al.getD j none with
    |none=>true
    |some fc=>decide (i=j) || decide (fb.st≠fc.st)
theorem zjM{al:List (Option Fb)}{i:Nat}{fb:Fb}(h:al.getD i none=some fb):i<al.length:=by
 by_cases hi:i<al.length
 ·exact hi
 ·rw[List.getD_eq_getElem?_getD,List.getElem?_eq_none oM]at h;cases h
theorem zcu.get{al:List (Option Fb)}{ops:Array Oper}(h:zcu al ops=true){i:Nat}{fb:Fb}(hi:al.getD i none=some fb) :
  i<ops.size/\fb.st<ops.size/\fb.src<ops.size/\(∀o,ops[fb.st]?=some o->i∈zaV .any o/\fb.src∈zaV .any o/\o.dst=none)/\(∃p,∀o,ops[i]?=some o->o.dst=some p)/\al.getD fb.st none=none/\al.getD fb.src none=none /\
   ∀j fc,al.getD j none=some fc->i≠j->fb.st≠fc.st:=by
 have h1:=List.all_eq_true.1 h i (by simpa using zjM hi);rw[hi]at h1;simp only[Bool.and_eq_true,decide_eq_true_eq]at h1;obtain⟨⟨⟨⟨⟨⟨⟨h1,h2⟩,h3⟩,h4⟩,h5⟩,h6⟩,h7⟩,h8⟩:=h1;refine⟨h1,h2,h3,λo ho=>?_,?_,by simpa using h6,by simpa using h7,λj fc hj hij=>?_⟩
 ·rw[ho]at h4;simp at h4;exact⟨h4.1.1,h4.1.2,h4.2⟩
 ·rw[Array.getElem?_eq_getElem h1]at h5;simp at h5;obtain⟨p,hp⟩:=Option.isSome_iff_exists.1 h5;refine⟨p,λo ho=>?_⟩;rw[Array.getElem?_eq_getElem h1]at ho
  cases ho;exact hp
 ·have h9:=List.all_eq_true.1 h8 j (by simpa using zjM hj);rw[hj]at h9;simp only[Bool.or_eq_true,decide_eq_true_eq]at h9;exact h9.resolve_left hij
def zn8(al:List (Option Fb))(i:Nat):Bool:=(al.getD i none).isNone && al.all λx=>match x with
 |none=>true
 |some fb=>fb.st != i
theorem zn8.mk{al:List (Option Fb)}{i:Nat}(h:al.getD i none=none)(h2:∀j fb,al.getD j none=some fb->fb.st≠i):zn8 al i=true:=by
 unfold zn8;rw[h];simp only[Option.isNone_none,Bool.true_and,List.all_eq_true];intro x hx
 cases x with
 |none=>rfl
 |some fb=>
  obtain⟨j,hj,e⟩:=List.getElem_of_mem hx;have:=h2 j fb (by rw[List.getD_eq_getElem?_getD,gE hj,e];rfl)
  simpa using this
def zby(p:Nat->Fb->Prop):Nat->List (Option Fb)->Prop
 |_,[]=>True
 |k,none :: r=>zby p (k+1) r
 |k,some fb :: r=>p k fb/\zby p (k+1) r
theorem zby.at{p:Nat->Fb->Prop}:∀{al:List (Option Fb)} {k j:Nat} {fb:Fb},zby p k al->al.getD j none=some fb->p (k+j) fb
 |[],_,j,_,_,h=>by simp at h
 |none :: r,k,0,_,_,h=>by simp at h
 |some x :: r,k,0,fb,hp,h=>by simp at h;subst h;exact hp.1
 |none :: r,k,j+1,fb,hp,h=>by
  have:=zby.at (al:=r) (k:=k+1) (j:=j) (fb:=fb) hp (by simpa using h);rw[show k+(j+1)=k+1+j by omega];exact this
 |some x :: r,k,j+1,fb,hp,h=>by
  have:=zby.at (al:=r) (k:=k+1) (j:=j) (fb:=fb) hp.2 (by simpa using h);rw[show k+(j+1)=k+1+j by omega];exact this
theorem zby.get{p:Nat->Fb->Prop}{al:List (Option Fb)}{j:Nat}{fb:Fb}(h:zby p 0 al)(hj:al.getD j none=some fb):p j fb:=by
 have:=h.at hj;rw[Nat.zero_add]at this;exact this
theorem zaO.imp{p q:Nat->Oper->Prop}:∀(l:List Oper)(k:Nat),(∀j o,l[j]?=some o->p (k+j) o->q (k+j) o)->zaO p k l->zaO q k l
 |[],_,_,_=>trivial
 |o :: r,k,h,hp=>⟨by have:=h 0 o rfl hp.1;exact this,zaO.imp r (k+1) (λj o' ho hp'=>by have:=h (j+1) o' (by simpa using ho) (by rw[show k+(j+1)=k+1+j by omega];exact hp');rw[show k+1+j=k+(j+1) by omega];exact this) hp.2⟩
end
section
variable {P : Program} {ops : Array Oper} {Q : Exit → Act → Wo → Prop}
def zaP(ops:Array Oper)(k:Nat):LN:=((ops[k]?).map λo=>zaV .any o).getD []
theorem zea.all{L:Nat->Prop}:∀{l:LN},zea L l->∀d,d∈l->L d
 |[],_,d,hd=>by simp at hd
 |x :: r,h,d,hd=>by
  rcases List.mem_cons.1 hd with rfl|hd
  ·exact h.1
  ·exact zea.all h.2 d hd
theorem zb7{id:Nat}{a:Act}{w:Wo}(J:(Nat->Prop)->(Nat->Vl)->Wo->Prop)(ds:LN)
  (hm:P.follows .mixedOrders=true)(ht:zkF .any ops=true)(hd:znH ops=ds)
  (h0:J (λ_=>False) (λk=>a.tmps.getD k undef) {w with drawn:=w.drawn+1})
  (hs:zaO (λi o=>∀(L:Nat->Prop)(T:Nat->Vl)(w:Wo),zea L (zaV .any o)->¬L i->J L T w ->
   ∀K:Act->Wo->Prop,(∀v w',J (λj=>j=i\/L j) (zcw T o.dst v) w'->K (({a with tmps:=ovr a.tmps T ds}:Act).put o.dst v) w') ->
    wpOp P ops Q i K {a with tmps:=ovr a.tmps T ds} w) 0 ops.toList)
  (he:∀T w,J (λi=>i<ops.size) T w->Q .normal {a with tmps:=ovr a.tmps T ds} w)
  (hmono:∀L T w,(∀i,i<ops.size->L i)->J L T w->J (λi=>i<ops.size) T w):(Code.region id ops true).wp P Q a w:=by
 refine wp_region_any hm (zeh (I:=λL a' w'=>∃T,a'={a with tmps:=ovr a.tmps T ds}/\J L T w') ht ?_ ?_ _ _ _ _ sM sM ?_)
 ·have key:∀(l:List Oper)(k:Nat),(∀o∈l,∀d,o.dst=some d->d∈ds) ->
    zaO (λi o=>∀(L:Nat->Prop)(T:Nat->Vl)(w:Wo),zea L (zaV .any o)->¬L i->J L T w ->
     ∀K:Act->Wo->Prop,(∀v w',J (λj=>j=i\/L j) (zcw T o.dst v) w'->K (({a with tmps:=ovr a.tmps T ds}:Act).put o.dst v) w') ->
      wpOp P ops Q i K {a with tmps:=ovr a.tmps T ds} w) k l ->
    zaO (λi o=>∀L a' w,zea L (zaV .any o)->¬L i->(∃T,a'={a with tmps:=ovr a.tmps T ds}/\J L T w) ->
     wpOp P ops Q i (λa' w'=>∃T,a'={a with tmps:=ovr a.tmps T ds}/\J (λj=>j=i\/L j) T w') a' w) k l:=by
   intro l
   induction l with
   |nil=>intro k _ _;trivial
   |cons o r ih=>
    intro k hin h;refine⟨?_,ih (k+1) (λo ho=>hin o (by simp[ho])) h.2⟩;rintro L a' w hL hn⟨T,rfl,hJ⟩;refine h.1 L T w hL hn hJ _ (λv w' hJ'=>⟨zcw T o.dst v,?_,hJ'⟩)
    cases hdo:o.dst with
    |none=>rfl
    |some d=>
     have:=hin o sM d hdo;simp only[Act.put,zcw];rw[ze6 _ _ _ _ _ this]
  refine key ops.toList 0 ?_ hs;intro o ho d hdo;rw[<-hd];exact List.mem_filterMap.2 ⟨o,ho,hdo⟩
 ·rintro L a' w hL⟨T,rfl,hJ⟩;exact he T w (hmono L T w hL hJ)
 ·refine⟨λk=>a.tmps.getD k undef,by rw[ze7],?_⟩;have:On (Array.replicate ops.size false)=λ_=>False:=by
   funext i
   unfold On
   by_cases h:i<ops.size<;>simp[h]
  rw[this];exact h0
end
def NoG(G:Nat->Prop)(w:Wo):Prop:=∀g,G g->∀cur t fr,w.heap[g]?=some (.cells cur t fr)->∀u∈cur.toList,zaJ u
theorem U.kept{w:Wo}(h:U w ao l)(hk:zah G w w')(hp:NoG G w):U w' ao l:=by
 intro i hi;obtain⟨b,off,e,hc⟩:=h i hi;refine⟨b,off,e,?_⟩
 by_cases hb:G b
 ·exfalso
  unfold World.cell? at hc;simp only at hc
  cases ho:w.heap[b]? with
  |none=>rw[ho]at hc;simp at hc
  |some ob=>
   rw[ho]at hc
   cases ob with
   |cells cur t fr=>
    exact d7
   |_=>simp at hc
 ·exact hk.cell hc hb
theorem zai.kept{w:Wo}{u:Vl}{z:Int}(h:zai w u z)(hk:zah G w w')(hp:NoG G w):zai w' u z:=by
 obtain⟨n1,ao1,L1,c1,rfl,Hn1,HL1,HB1,hc1,hl1,hU1⟩:=h;exact⟨n1,ao1,L1,c1,rfl,Hn1,HL1,HB1,hc1,hl1,hU1.kept hk hp⟩
theorem zad.kept{w:Wo}{u:Vl}{r:Rat}(h:zad w u r)(hk:zah G w w')(hp:NoG G w):zad w' u r:=by
 obtain⟨n1,a1,l1,c1,n2,a2,l2,c2,e,h1,h2⟩:=h;exact⟨n1,a1,l1,c1,n2,a2,l2,c2,e,h1.kept hk hp,h2.kept hk hp⟩
theorem VQ.kept{w:Wo}{u:Vl}{b:Bool}(h:VQ w u b)(hk:zah G w w')(hp:NoG G w):VQ w' u b:=by
 obtain⟨x1,x2,l1,l2,a1,a2,c1,c2,e,h1,h2,k1,k2,h3,h4,h5⟩:=h;exact⟨x1,x2,l1,l2,a1,a2,c1,c2,e,h1,h2,k1,k2,h3.kept hk hp,h4.kept hk hp,h5⟩
theorem QV.kept{w:Wo}{u:Vl}{o:Qo}(h:QV w u o)(hk:zah G w w')(hp:NoG G w):QV w' u o:=by
 cases o
 ·exact VQ.kept h hk hp
 ·exact zad.kept h hk hp
theorem UQ.kept{w:Wo}{l:List Qo}(h:UQ w ao l)(hk:zah G w w')(hp:NoG G w)(ha:∀a,ao=some a->¬G a.block):UQ w' ao l:=by
 intro i o hi;obtain⟨b,off,n1,a1,l1,c1,n2,a2,l2,c2,e,f,hq⟩:=h i o hi;have hg:¬G b:=ha _ e;exact⟨b,off,n1,a1,l1,c1,n2,a2,l2,c2,e,⟨hk.cell f.c0 hg,hk.cell f.c1 hg,hk.cell f.c2 hg,hk.cell f.c3 hg,trivial,trivial,trivial,trivial⟩,hq.kept hk hp⟩
end Go.Proofs.YtfgffkmddanjjaaGreatDoor
