import Derived.Test.YtileholjbdhmjaaGreatDoorI1
import Derived.Test.YtileholjbdhmjaaGreatDoorQ7
import Derived.Test.YtileholjbdhmjaaGreatDoorQ5
import Derived.Test.YtileholjbdhmjaaGreatDoorI8
import Derived.Test.YtileholjbdhmjaaGreatDoorQ1
import Derived.Lib.IndexMore
import Derived.Test.YtileholjbdhmjaaGreatDoorDv
import Derived.Test.YtileholjbdhmjaaGreatDoorSxA
import Derived.Test.YtileholjbdhmjaaGreatDoorOQ
set_option linter.unusedVariables false
set_option linter.unusedSimpArgs false
/-
  Texts of fractions, plain.
-/
set_option maxRecDepth 100000
set_option maxHeartbeats 25600000
namespace Go.Proofs.YtileholjbdhmjaaGreatDoor
open Go.RowKit
theorem sum_sub_k (va vb:Value) (a b:Rat) (k:Int) (w:World) (ha:RatV w va a) (hb:RatV w vb b) (hs:Hid (KQ k (SubS a b))) (hE:Env w) :
  Calls Tryz.prog 63 #[va,vb,.bool true] w fun e w' => PK k (a - b) w' e∧Below w.heap.size w w':=by
 obtain ⟨k1,h_k1⟩:=KQ.ex (CrS a b);have H_k1:=hii h_k1;clear h_k1;obtain ⟨k2,h_k2⟩:=KQ.ex (Rq.Sm ((a.num * (b.den:Int)) + (-(b.num * (a.den:Int)))));have H_k2:=hii h_k2;clear h_k2;obtain ⟨k3,h_k3⟩:=KQ.ex (Rq.Sm ((a.den:Int) * (b.den:Int)));have H_k3:=hii h_k3;clear h_k3;have HSU:Hid (Rq.Sm ((a.num * (b.den:Int)) - (b.num * (a.den:Int)))↔Rq.Sm ((a.num * (b.den:Int)) + (-(b.num * (a.den:Int))))):=hii (by rw [Int.sub_eq_add_neg]);have hE0:=hE;have hbw:=Below.refl w.heap.size w;obtain ⟨ng1,ao1,n1,cap1,ng2,ao2,n2,cap2,rfl,h1,h2⟩:=ha;have HV1:=hii h1;have HV2:=hii h2;clear h1 h2;obtain ⟨ng3,ao3,n3,cap3,ng4,ao4,n4,cap4,rfl,h1,h2⟩:=hb;have HV3:=hii h1;have HV4:=hii h2;clear h1 h2;go_enter Tryz.func63,Tryz.ntmps63;go_upto_region 1 with fail;obtain ⟨wx,hwx,hszx,X1,X2,X3,hb⟩:=boxes_444 w (.bool ng1) (.slice ao1 n1 cap1) (.bool ng2) (.slice ao2 n2 cap2) 38 (.bool ng3) (.slice ao3 n3 cap3) (.bool ng4) (.slice ao4 n4 cap4) 38 (.bool false) (.slice none 0 0) (.bool false) (.slice none 0 0) 38;rw [← hwx];clear hwx;obtain ⟨v1,rfl⟩:∃ v1:World,v1=wx:=⟨_,rfl⟩;have HV1:=hii (HV1.out.mono hb);have HV2:=hii (HV2.out.mono hb);have HV3:=hii (HV3.out.mono hb);have HV4:=hii (HV4.out.mono hb);have hE:=hE.mono hb;have hbw:=bu hbw hb;clear hb;obtain ⟨x1a,x1b,x1c,x1d,_,_,_,_⟩:=id X1;obtain ⟨x2a,x2b,x2c,x2d,_,_,_,_⟩:=id X2;go_wp2_with fail;(with_reducible refine (cross_k _ _ a b k1 k3 v1 (RatV.mk' HV1 HV2) (RatV.mk' HV3 HV4) H_k1 H_k3 hE).mono ?_);rintro e v2 ⟨⟨z7,⟨ng5,ao5,n5,cap5,ng6,ao6,n6,cap6,ng7,ao7,n7,cap7,rfl,HV5,HV6,HV7⟩,hz7⟩,hb⟩;have HV1:=hii (HV1.out.mono hb);have HV2:=hii (HV2.out.mono hb);have HV3:=hii (HV3.out.mono hb);have HV4:=hii (HV4.out.mono hb);have X1:=X1.mono hb;have X2:=X2.mono hb;have X3:=X3.mono hb;have hE:=hE.mono hb;have hbw:=bu hbw hb;clear hb;clear x1a x1b x1c x1d x2a x2b x2c x2d;have Hz7:=hii hz7;clear hz7;go_upto_region 2 with fail;have lX5X1:=X1.lt;have lX5X2:=X2.lt;have lX5X3:=X3.lt;obtain ⟨wx,hwx,hszx,X5,X6,X7,hb⟩:=boxes_222 v2 (.bool ng5) (.slice ao5 n5 cap5) 36 (.bool ng6) (.slice ao6 n6 cap6) 36 (.bool ng7) (.slice ao7 n7 cap7) 36;rw [← hwx];clear hwx;obtain ⟨v3,rfl⟩:∃ v3:World,v3=wx:=⟨_,rfl⟩;have HV1:=hii (HV1.out.mono hb);have HV2:=hii (HV2.out.mono hb);have HV3:=hii (HV3.out.mono hb);have HV4:=hii (HV4.out.mono hb);have X1:=X1.mono hb;have X2:=X2.mono hb;have X3:=X3.mono hb;have HV5:=hii (HV5.out.mono hb);have HV6:=hii (HV6.out.mono hb);have HV7:=hii (HV7.out.mono hb);have hE:=hE.mono hb;have hbw:=bu hbw hb;clear hb;rcases H_k1.out with ⟨rfl,h_k1⟩ | ⟨rfl,h_k1⟩
 ·have G_k1:=hii h_k1;clear h_k1;rw [zk_0] at HV5;rw [zk_0] at HV6;obtain rfl:=Hz7.out rfl;obtain ⟨x6a,x6b,_,_⟩:=id X6;go_wp2_with fail;(with_reducible refine (neg_any _ (b.num * (a.den:Int)) v3 HV6.out).mono ?_);rintro e v4 ⟨⟨ng9,ao9,n9,cap9,rfl,HV9⟩,hb⟩;have HV1:=hii (HV1.out.mono hb);have HV2:=hii (HV2.out.mono hb);have HV3:=hii (HV3.out.mono hb);have HV4:=hii (HV4.out.mono hb);have X1:=X1.mono hb;have X2:=X2.mono hb;have X3:=X3.mono hb;have HV5:=hii (HV5.out.mono hb);have HV6:=hii (HV6.out.mono hb);have HV7:=hii (HV7.out.mono hb);have X5:=X5.mono hb;have X6:=X6.mono hb;have X7:=X7.mono hb;have hE:=hE.mono hb;have hbw:=bu hbw hb;clear hb;clear x6a x6b;obtain ⟨x6a,x6b,_,_⟩:=id X6;go_upto_region 6 with fail;clear x6a x6b;have HV1:=hii (HV1.out.put2B X6 (.bool ng9) (.slice ao9 n9 cap9));have HV2:=hii (HV2.out.put2B X6 (.bool ng9) (.slice ao9 n9 cap9));have HV3:=hii (HV3.out.put2B X6 (.bool ng9) (.slice ao9 n9 cap9));have HV4:=hii (HV4.out.put2B X6 (.bool ng9) (.slice ao9 n9 cap9));have X1:=X1.other2 (u:=.bool ng9) (v:=.slice ao9 n9 cap9) (show w.heap.size ≠ v2.heap.size + 1 by omega);have X2:=X2.other2 (u:=.bool ng9) (v:=.slice ao9 n9 cap9) (show w.heap.size + 1 ≠ v2.heap.size + 1 by omega);have X3:=X3.other2 (u:=.bool ng9) (v:=.slice ao9 n9 cap9) (show w.heap.size + 1 + 1 ≠ v2.heap.size + 1 by omega);have HV5:=hii (HV5.out.put2B X6 (.bool ng9) (.slice ao9 n9 cap9));have HV6:=hii (HV6.out.put2B X6 (.bool ng9) (.slice ao9 n9 cap9));have HV7:=hii (HV7.out.put2B X6 (.bool ng9) (.slice ao9 n9 cap9));have X5:=X5.other2 (u:=.bool ng9) (v:=.slice ao9 n9 cap9) (show v2.heap.size ≠ v2.heap.size + 1 by omega);have X7:=X7.other2 (u:=.bool ng9) (v:=.slice ao9 n9 cap9) (show v2.heap.size + 1 + 1 ≠ v2.heap.size + 1 by omega);have HV9:=hii (HV9.out.put2B X6 (.bool ng9) (.slice ao9 n9 cap9));have X6:=X6.set2I (.bool ng9) (.slice ao9 n9 cap9);have hbw:=Below.put2 hbw (n:=v2.heap.size + 1) (by omega) (.bool ng9) (.slice ao9 n9 cap9);have hE:=hE0.mono hbw;generalize ((v4.setCell ⟨v2.heap.size + 1,0,none⟩ (.bool ng9)).setCell ⟨v2.heap.size + 1,1,none⟩ (.slice ao9 n9 cap9))=v5 at *;obtain ⟨x5a,x5b,_,_⟩:=id X5;obtain ⟨x6a,x6b,_,_⟩:=id X6;go_wp2_with fail;(with_reducible refine (rAdd_kI _ _ (a.num * (b.den:Int)) (-(b.num * (a.den:Int))) k2 v5 HV5.out HV9.out H_k2 hE).mono ?_);rintro e v6 ⟨⟨ng8,ao8,n8,cap8,rfl,HV8⟩,hb⟩;have X1:=X1.mono hb;have X2:=X2.mono hb;have X3:=X3.mono hb;have HV7:=hii (HV7.out.mono hb);have X5:=X5.mono hb;have X6:=X6.mono hb;have X7:=X7.mono hb;have hE:=hE.mono hb;have hbw:=bu hbw hb;clear hb;clear x5a x5b x6a x6b;go_upto_region 7 with fail;have lX8X1:=X1.lt;have lX8X2:=X2.lt;have lX8X3:=X3.lt;have lX8X5:=X5.lt;have lX8X6:=X6.lt;have lX8X7:=X7.lt;have X8:=Box.new v6 (.bool ng8) (.slice ao8 n8 cap8) 36;have hb:=bA v6 (.cells #[.bool ng8,.slice ao8 n8 cap8] 36);generalize v6.alloc (.cells #[.bool ng8,.slice ao8 n8 cap8] 36)=v7 at *;have X3:=X3.mono hb;have HV7:=hii (HV7.out.mono hb);have X7:=X7.mono hb;have HV8:=hii (HV8.out.mono hb);have hE:=hE.mono hb;have hbw:=bu hbw hb;clear hb;rcases H_k2.out with ⟨rfl,h_k2⟩ | ⟨rfl,h_k2⟩
  ·have G_k2:=hii h_k2;clear h_k2;rw [zk_0] at HV8;rcases H_k3.out with ⟨rfl,h_k3⟩ | ⟨rfl,h_k3⟩
   ·have G_k3:=hii h_k3;clear h_k3;obtain rfl:k=0:=hs.out.yes ⟨G_k1.out,HSU.out.2 G_k2.out,G_k3.out⟩;rw [zk_0] at HV7;have HS1:Hid (sgnI ((a.den:Int) * (b.den:Int))=1):=hii (by have h1:=Rq.den_gt a; have h2:=Rq.den_gt b; have:=Int.mul_pos h1 h2; unfold sgnI; rw [if_neg (by omega),if_neg (by omega)]);obtain ⟨x7a,x7b,_,_⟩:=id X7;go_wp2_with fail;(with_reducible refine (rSign_eq _ ((a.den:Int) * (b.den:Int)) 1 v7 HS1 HV7.out).mono ?_);rintro e v8 ⟨rfl,hb⟩;have X3:=X3.mono hb;have HV7:=hii (HV7.out.mono hb);have X7:=X7.mono hb;have HV8:=hii (HV8.out.mono hb);have X8:=X8.mono hb;have hE:=hE.mono hb;have hbw:=bu hbw hb;clear hb;clear x7a x7b;obtain ⟨x7a,x7b,_,_⟩:=id X7;obtain ⟨x8a,x8b,_,_⟩:=id X8;go_wp2_with fail;(with_reducible refine (rMake_ok _ _ ((a.num * (b.den:Int)) + (-(b.num * (a.den:Int)))) ((a.den:Int) * (b.den:Int)) v8 HV8.out HV7.out (hii (dd_ne a b)) hE).mono ?_);rintro e v9 ⟨⟨ngA,aoA,nA,capA,ngB,aoB,nB,capB,rfl,HVA,HVB⟩,hb⟩;have X3:=X3.mono hb;have hbw:=bu hbw hb;clear hb;clear x7a x7b x8a x8b;rw [← Int.sub_eq_add_neg] at HVA HVB;rw [Rq.sub_eq] at HVA HVB;obtain ⟨x3a,x3b,x3c,x3d,_,_,_,_⟩:=id X3;go_wp2;refine bodyPost_ret (v:=.tuple #[.agg #[.bool ngA,.slice aoA nA capA,.bool ngB,.slice aoB nB capB],.int .i64 0]) (by simp [results,Tryz.results63,go_sem,x3a,x3b,x3c,x3d]) rfl ⟨PK.of ⟨ngA,aoA,nA,capA,ngB,aoB,nB,capB,rfl,hii (HVA.out.put4B X3 (.bool ngA) (.slice aoA nA capA) (.bool ngB) (.slice aoB nB capB)),hii (HVB.out.put4B X3 (.bool ngA) (.slice aoA nA capA) (.bool ngB) (.slice aoB nB capB))⟩,Below.put4 hbw (by omega) (.bool ngA) (.slice aoA nA capA) (.bool ngB) (.slice aoB nB capB)⟩
   ·have G_k3:=hii h_k3;clear h_k3;rw [zk_3] at HV7;obtain ⟨x7a,x7b,_,_⟩:=id X7;go_wp2_with fail;(with_reducible refine (rSign_eq _ 0 0 v7 (hii rfl) HV7.out).mono ?_);rintro e v8 ⟨rfl,hb⟩;have X3:=X3.mono hb;have hbw:=bu hbw hb;clear hb;clear x7a x7b;obtain rfl:k=3:=hs.out.no (fun h => G_k3.out h.2.2);obtain ⟨x3a,x3b,x3c,x3d,_,_,_,_⟩:=id X3;go_wp2;refine bodyPost_ret (v:=.tuple #[.agg #[.bool false,.slice none 0 0,.bool false,.slice none 0 0],.int .i64 3]) (by simp [results,Tryz.results63,go_sem,x3a,x3b,x3c,x3d]) rfl ⟨PK.err _ _,Below.put4 hbw (by omega) (.bool false) (.slice none 0 0) (.bool false) (.slice none 0 0)⟩
  ·have G_k2:=hii h_k2;clear h_k2;obtain rfl:k=3:=hs.out.no (fun h => G_k2.out (HSU.out.1 h.2.1));obtain ⟨x3a,x3b,x3c,x3d,_,_,_,_⟩:=id X3;go_wp2;refine bodyPost_ret (v:=.tuple #[.agg #[.bool false,.slice none 0 0,.bool false,.slice none 0 0],.int .i64 3]) (by simp [results,Tryz.results63,go_sem,x3a,x3b,x3c,x3d]) rfl ⟨PK.err _ _,Below.put4 hbw (by omega) (.bool false) (.slice none 0 0) (.bool false) (.slice none 0 0)⟩
 ·have G_k1:=hii h_k1;clear h_k1;obtain rfl:k=3:=hs.out.no (fun h => G_k1.out h.1);obtain ⟨x3a,x3b,x3c,x3d,_,_,_,_⟩:=id X3;go_wp2;refine bodyPost_ret (v:=.tuple #[.agg #[.bool false,.slice none 0 0,.bool false,.slice none 0 0],.int .i64 3]) (by simp [results,Tryz.results63,go_sem,x3a,x3b,x3c,x3d]) rfl ⟨PK.err _ _,Below.put4 hbw (by omega) (.bool false) (.slice none 0 0) (.bool false) (.slice none 0 0)⟩
theorem rSub_k (va vb:Value) (a b:Rat) (k:Int) (w:World) (ha:RatV w va a) (hb:RatV w vb b) (hs:Hid (KQ k (SubS a b))) (hE:Env w) :
  Calls Tryz.prog 86 #[va,vb] w fun e w' => PK k (a - b) w' e∧Below w.heap.size w w':=by
 have hbw:=Below.refl w.heap.size w;obtain ⟨ng1,ao1,n1,cap1,ng2,ao2,n2,cap2,rfl,h1,h2⟩:=ha;have HV1:=hii h1;have HV2:=hii h2;clear h1 h2;obtain ⟨ng3,ao3,n3,cap3,ng4,ao4,n4,cap4,rfl,h1,h2⟩:=hb;have HV3:=hii h1;have HV4:=hii h2;clear h1 h2;go_enter Tryz.func86,Tryz.ntmps86;go_upto_region 1 with fail;obtain ⟨wx,hwx,hszx,X1,X2,X3,hb⟩:=boxes_444 w (.bool ng1) (.slice ao1 n1 cap1) (.bool ng2) (.slice ao2 n2 cap2) 38 (.bool ng3) (.slice ao3 n3 cap3) (.bool ng4) (.slice ao4 n4 cap4) 38 (.bool false) (.slice none 0 0) (.bool false) (.slice none 0 0) 38;rw [← hwx];clear hwx;obtain ⟨v1,rfl⟩:∃ v1:World,v1=wx:=⟨_,rfl⟩;have HV1:=hii (HV1.out.mono hb);have HV2:=hii (HV2.out.mono hb);have HV3:=hii (HV3.out.mono hb);have HV4:=hii (HV4.out.mono hb);have hE:=hE.mono hb;have hbw:=bu hbw hb;clear hb;obtain ⟨x1a,x1b,x1c,x1d,_,_,_,_⟩:=id X1;obtain ⟨x2a,x2b,x2c,x2d,_,_,_,_⟩:=id X2;go_wp2_with fail;(with_reducible refine (sum_sub_k _ _ a b k v1 (RatV.mk' HV1 HV2) (RatV.mk' HV3 HV4) hs hE).mono ?_);rintro e v2 ⟨⟨ng5,ao5,n5,cap5,ng6,ao6,n6,cap6,rfl,HV5,HV6,Hz⟩,hb⟩;have X3:=X3.mono hb;have hbw:=bu hbw hb;clear hb;clear x1a x1b x1c x1d x2a x2b x2c x2d;obtain ⟨x3a,x3b,x3c,x3d,_,_,_,_⟩:=id X3;go_wp2;refine bodyPost_ret (v:=.tuple #[.agg #[.bool ng5,.slice ao5 n5 cap5,.bool ng6,.slice ao6 n6 cap6],.int .i64 k]) (by simp [results,Tryz.results86,go_sem,x3a,x3b,x3c,x3d]) rfl ⟨⟨ng5,ao5,n5,cap5,ng6,ao6,n6,cap6,rfl,hii (HV5.out.put4B X3 (.bool ng5) (.slice ao5 n5 cap5) (.bool ng6) (.slice ao6 n6 cap6)),hii (HV6.out.put4B X3 (.bool ng5) (.slice ao5 n5 cap5) (.bool ng6) (.slice ao6 n6 cap6)),Hz⟩,Below.put4 hbw (by omega) (.bool ng5) (.slice ao5 n5 cap5) (.bool ng6) (.slice ao6 n6 cap6)⟩
theorem rSub_q (va vb:Value) (a b:Rat) (w:World) (ha:RatV w va a) (hb:RatV w vb b) (hs:Hid (SubS a b)) (hE:Env w) :
  Calls Tryz.prog 86 #[va,vb] w fun e w' => GotQ w' (a - b) e∧Below w.heap.size w w':=(rSub_k va vb a b 0 w ha hb (hii (.inl ⟨rfl,hs.out⟩)) hE).mono fun _ _ ⟨h,hb⟩ => ⟨h.got,hb⟩
end Go.Proofs.YtileholjbdhmjaaGreatDoor
namespace Rq
open Go
end Rq
namespace Go.Proofs.YtileholjbdhmjaaGreatDoor
open Go.RowKit
end Go.Proofs.YtileholjbdhmjaaGreatDoor
namespace Rq
open Go
end Rq
namespace Go.Proofs.YtileholjbdhmjaaGreatDoor
open Go.RowKit
theorem rDiv_k (va vb:Value) (a b:Rat) (k:Int) (w:World) (ha:RatV w va a) (hb:RatV w vb b) (h0:Hid (b.num ≠ 0)) (hs:Hid (KQ k (DivS a b))) (hE:Env w) :
  Calls Tryz.prog 85 #[va,vb] w fun e w' => PK k (a / b) w' e∧Below w.heap.size w w':=by
 obtain ⟨k1,h_k1⟩:=KQ.ex (Rq.Sm (a.num * (b.den:Int)));have H_k1:=hii h_k1;clear h_k1;obtain ⟨k2,h_k2⟩:=KQ.ex (Rq.Sm ((a.den:Int) * b.num));have H_k2:=hii h_k2;clear h_k2;have HNE:Hid ((a.den:Int) * b.num ≠ 0):=hii (Int.mul_ne_zero (Rq.den_ne a) h0.out);obtain ⟨sg,hsg⟩:∃ s,sgnI b.num=s:=⟨_,rfl⟩;have HSG:=hii hsg;have hsg0:sg ≠ 0:=by rw [← hsg]; have:=h0.out; unfold sgnI; split <;> (try split) <;> omega
 clear hsg;have hbw:=Below.refl w.heap.size w;obtain ⟨ng1,ao1,n1,cap1,ng2,ao2,n2,cap2,rfl,h1,h2⟩:=ha;have HV1:=hii h1;have HV2:=hii h2;clear h1 h2;obtain ⟨ng3,ao3,n3,cap3,ng4,ao4,n4,cap4,rfl,h1,h2⟩:=hb;have HV3:=hii h1;have HV4:=hii h2;clear h1 h2;go_enter Tryz.func85,Tryz.ntmps85;go_upto_region 1 with fail;obtain ⟨wx,hwx,hszx,X1,X2,X3,hb⟩:=boxes_444 w (.bool ng1) (.slice ao1 n1 cap1) (.bool ng2) (.slice ao2 n2 cap2) 38 (.bool ng3) (.slice ao3 n3 cap3) (.bool ng4) (.slice ao4 n4 cap4) 38 (.bool false) (.slice none 0 0) (.bool false) (.slice none 0 0) 38;rw [← hwx];clear hwx;obtain ⟨v1,rfl⟩:∃ v1:World,v1=wx:=⟨_,rfl⟩;have HV1:=hii (HV1.out.mono hb);have HV2:=hii (HV2.out.mono hb);have HV3:=hii (HV3.out.mono hb);have HV4:=hii (HV4.out.mono hb);have hE:=hE.mono hb;have hbw:=bu hbw hb;clear hb;obtain ⟨x1a,x1b,x1c,x1d,_,_,_,_⟩:=id X1;go_wp2_with fail;(with_reducible refine (rValid_true _ a v1 (RatV.mk' HV1 HV2) hE).mono ?_);rintro e v2 ⟨rfl,hb⟩;have HV1:=hii (HV1.out.mono hb);have HV2:=hii (HV2.out.mono hb);have HV3:=hii (HV3.out.mono hb);have HV4:=hii (HV4.out.mono hb);have X1:=X1.mono hb;have X2:=X2.mono hb;have X3:=X3.mono hb;have hE:=hE.mono hb;have hbw:=bu hbw hb;clear hb;clear x1a x1b x1c x1d;obtain ⟨x2a,x2b,x2c,x2d,_,_,_,_⟩:=id X2;go_wp2_with fail;(with_reducible refine (rValid_true _ b v2 (RatV.mk' HV3 HV4) hE).mono ?_);rintro e v3 ⟨rfl,hb⟩;have HV1:=hii (HV1.out.mono hb);have HV2:=hii (HV2.out.mono hb);have HV3:=hii (HV3.out.mono hb);have HV4:=hii (HV4.out.mono hb);have X1:=X1.mono hb;have X2:=X2.mono hb;have X3:=X3.mono hb;have hE:=hE.mono hb;have hbw:=bu hbw hb;clear hb;clear x2a x2b x2c x2d;obtain ⟨x2a,x2b,x2c,x2d,_,_,_,_⟩:=id X2;go_wp2_with fail;(with_reducible refine (rSign_eq _ b.num sg v3 HSG HV3.out).mono ?_);rintro e v4 ⟨rfl,hb⟩;have HV1:=hii (HV1.out.mono hb);have HV2:=hii (HV2.out.mono hb);have HV3:=hii (HV3.out.mono hb);have HV4:=hii (HV4.out.mono hb);have X1:=X1.mono hb;have X2:=X2.mono hb;have X3:=X3.mono hb;have hE:=hE.mono hb;have hbw:=bu hbw hb;clear hb;clear x2a x2b x2c x2d;have hsg1:(sg == 0)=false:=by simpa using hsg0
 obtain ⟨x1a,x1b,x1c,x1d,_,_,_,_⟩:=id X1;obtain ⟨x2a,x2b,x2c,x2d,_,_,_,_⟩:=id X2;go_wp2_with fail;(with_reducible refine (rMul_kI _ _ a.num (b.den:Int) k1 v4 HV1.out HV4.out H_k1 hE).mono ?_);rintro e v5 ⟨⟨ng5,ao5,n5,cap5,rfl,HV5⟩,hb⟩;have HV2:=hii (HV2.out.mono hb);have HV3:=hii (HV3.out.mono hb);have X1:=X1.mono hb;have X2:=X2.mono hb;have X3:=X3.mono hb;have hE:=hE.mono hb;have hbw:=bu hbw hb;clear hb;clear x1a x1b x1c x1d x2a x2b x2c x2d;go_upto_region 6 with fail;have lX5X1:=X1.lt;have lX5X2:=X2.lt;have lX5X3:=X3.lt;have X5:=Box.new v5 (.bool ng5) (.slice ao5 n5 cap5) 36;have hb:=bA v5 (.cells #[.bool ng5,.slice ao5 n5 cap5] 36);generalize v5.alloc (.cells #[.bool ng5,.slice ao5 n5 cap5] 36)=v6 at *;have HV2:=hii (HV2.out.mono hb);have HV3:=hii (HV3.out.mono hb);have X1:=X1.mono hb;have X2:=X2.mono hb;have X3:=X3.mono hb;have HV5:=hii (HV5.out.mono hb);have hE:=hE.mono hb;have hbw:=bu hbw hb;clear hb;obtain ⟨x1a,x1b,x1c,x1d,_,_,_,_⟩:=id X1;obtain ⟨x2a,x2b,x2c,x2d,_,_,_,_⟩:=id X2;go_wp2_with fail;(with_reducible refine (rMul_kI _ _ (a.den:Int) b.num k2 v6 HV2.out HV3.out H_k2 hE).mono ?_);rintro e v7 ⟨⟨ng6,ao6,n6,cap6,rfl,HV6⟩,hb⟩;have X1:=X1.mono hb;have X2:=X2.mono hb;have X3:=X3.mono hb;have HV5:=hii (HV5.out.mono hb);have X5:=X5.mono hb;have hE:=hE.mono hb;have hbw:=bu hbw hb;clear hb;clear x1a x1b x1c x1d x2a x2b x2c x2d;go_upto_region 7 with fail;have lX6X1:=X1.lt;have lX6X2:=X2.lt;have lX6X3:=X3.lt;have lX6X5:=X5.lt;have X6:=Box.new v7 (.bool ng6) (.slice ao6 n6 cap6) 36;have hb:=bA v7 (.cells #[.bool ng6,.slice ao6 n6 cap6] 36);generalize v7.alloc (.cells #[.bool ng6,.slice ao6 n6 cap6] 36)=v8 at *;have X3:=X3.mono hb;have HV5:=hii (HV5.out.mono hb);have X5:=X5.mono hb;have HV6:=hii (HV6.out.mono hb);have hE:=hE.mono hb;have hbw:=bu hbw hb;clear hb;rcases H_k1.out with ⟨rfl,h_k1⟩ | ⟨rfl,h_k1⟩
 ·have G_k1:=hii h_k1;clear h_k1;rw [zk_0] at HV5;rcases H_k2.out with ⟨rfl,h_k2⟩ | ⟨rfl,h_k2⟩
  ·have G_k2:=hii h_k2;clear h_k2;rw [zk_0] at HV6;obtain rfl:k=0:=hs.out.yes ⟨G_k1.out,G_k2.out⟩;obtain ⟨x5a,x5b,_,_⟩:=id X5;obtain ⟨x6a,x6b,_,_⟩:=id X6;go_wp2_with fail;(with_reducible refine (rMake_ok _ _ (a.num * (b.den:Int)) ((a.den:Int) * b.num) v8 HV5.out HV6.out HNE hE).mono ?_);rintro e v9 ⟨⟨ng7,ao7,n7,cap7,ng8,ao8,n8,cap8,rfl,HV7,HV8⟩,hb⟩;have X3:=X3.mono hb;have hbw:=bu hbw hb;clear hb;clear x5a x5b x6a x6b;rw [Rq.div_eq] at HV7 HV8;obtain ⟨x3a,x3b,x3c,x3d,_,_,_,_⟩:=id X3;go_wp2;refine bodyPost_ret (v:=.tuple #[.agg #[.bool ng7,.slice ao7 n7 cap7,.bool ng8,.slice ao8 n8 cap8],.int .i64 0]) (by simp [results,Tryz.results85,go_sem,x3a,x3b,x3c,x3d]) rfl ⟨PK.of ⟨ng7,ao7,n7,cap7,ng8,ao8,n8,cap8,rfl,hii (HV7.out.put4B X3 (.bool ng7) (.slice ao7 n7 cap7) (.bool ng8) (.slice ao8 n8 cap8)),hii (HV8.out.put4B X3 (.bool ng7) (.slice ao7 n7 cap7) (.bool ng8) (.slice ao8 n8 cap8))⟩,Below.put4 hbw (by omega) (.bool ng7) (.slice ao7 n7 cap7) (.bool ng8) (.slice ao8 n8 cap8)⟩
  ·have G_k2:=hii h_k2;clear h_k2;obtain rfl:k=3:=hs.out.no (fun h => G_k2.out h.2);obtain ⟨x3a,x3b,x3c,x3d,_,_,_,_⟩:=id X3;go_wp2;refine bodyPost_ret (v:=.tuple #[.agg #[.bool false,.slice none 0 0,.bool false,.slice none 0 0],.int .i64 3]) (by simp [results,Tryz.results85,go_sem,x3a,x3b,x3c,x3d]) rfl ⟨PK.err _ _,Below.put4 hbw (by omega) (.bool false) (.slice none 0 0) (.bool false) (.slice none 0 0)⟩
 ·have G_k1:=hii h_k1;clear h_k1;obtain rfl:k=3:=hs.out.no (fun h => G_k1.out h.1);obtain ⟨x3a,x3b,x3c,x3d,_,_,_,_⟩:=id X3;go_wp2;refine bodyPost_ret (v:=.tuple #[.agg #[.bool false,.slice none 0 0,.bool false,.slice none 0 0],.int .i64 3]) (by simp [results,Tryz.results85,go_sem,x3a,x3b,x3c,x3d]) rfl ⟨PK.err _ _,Below.put4 hbw (by omega) (.bool false) (.slice none 0 0) (.bool false) (.slice none 0 0)⟩
end Go.Proofs.YtileholjbdhmjaaGreatDoor
namespace Sx
open Du
theorem det_less (n:Nat) (A:Nat→Nat→Rat) (s:Nat) (hs:s < n) (c:Nat→Rat) (hc:c s=0):det n (setRow A s (fun j => A s j - sm n (fun t => c t * A t j)))=det n A:=by
 have h1:=det_lin n A s (-1) (fun j => sm n (fun t => c t * A t j)) (A s) hs;have h2:=det_comb n A s hs c n nl;rw [if_pos hs,hc] at h2;rw [set_self,h2] at h1;have e:(fun j => A s j - sm n (fun t => c t * A t j))=fun j => -1 * sm n (fun t => c t * A t j) + A s j:=by funext j; grind
 rw [e,h1]; grind
theorem det_border (n:Nat) (A:Nat→Nat→Rat) (c:Nat→Rat) (h:∀ j,j < n→sm n (fun t => c t * A t j)=A n j):det (n + 1) A=(A n n - sm n (fun t => c t * A t n)) * det n A:=by
 let c':=fun t => if t < n then c t else 0
 have hs:∀ j,sm (n + 1) (fun t => c' t * A t j)=sm n (fun t => c t * A t j):=fun j => by
  simp only [sm,c'];rw [if_neg (by omega),sm_congr n (fun t => (if t < n then c t else 0) * A t j) (fun t => c t * A t j) (fun k hk => by simp only [if_pos hk])]; grind
 have h1:=det_less (n + 1) A n (by omega) c' (by simp only [c']; rw [if_neg (by omega)]);rw [← h1,det_last]
 ·have e1:det n (setRow A n (fun j => A n j - sm (n + 1) (fun t => c' t * A t j)))=det n A:=det_congr n _ _ fun r c hr _ => by unfold setRow; rw [if_neg (by omega)]
  rw [e1];unfold setRow;rw [if_pos rfl];simp only [hs]
 ·intro j hj;unfold setRow;rw [if_pos rfl];simp only [hs,h j hj]; grind
end Sx
namespace Sx
open Du
namespace Dat
variable (d : Dat)
end Dat
section
variable {d : Dat} {T T' : Nat → Nat → Rat} {B B' : Nat → Nat}
theorem pnt_out {v:Nat} (h:∀ t,t < d.m→B t ≠ v):pnt d T B v=0:=by
 unfold pnt;rw [sm_congr d.m _ (fun _ => 0) fun t ht => if_neg (h t ht),sm_zero]
theorem corner (h:d.Inv T B) (z:Nat→Rat) (h1:∀ i,i < d.m→pnt d T B (d.n + i)=0→sm d.n (fun k => d.A i k * z k)=0) (h2:∀ k,k < d.n→pnt d T B k=0→z k=0):∀ k,k < d.n→z k=0:=by
 let e:Nat→Rat:=fun v => if v < d.n then z v else - sm d.n (fun k => d.A (v - d.n) k * z k)
 have e0:∀ v,v < d.n→e v=z v:=fun v hv => if_pos hv
 have es:∀ i,e (d.n + i)=- sm d.n (fun k => d.A i k * z k):=fun i => by
  simp only [e]; rw [if_neg (by omega),show d.n + i - d.n=i by omega]
 have hz:∀ v,v < d.w→pnt d T B v=0→e v=0:=fun v hv hp => by
  by_cases hn:v < d.n
  ·rw [e0 v hn]; exact h2 v hn hp
  ·obtain ⟨i,rfl⟩:∃ i,v=d.n + i:=⟨v - d.n,by omega⟩;rw [es,h1 i (by unfold Dat.w at hv; omega) hp]; grind
 have hrow:∀ i,i < d.m→sm d.w (fun v => e v * d.col v i)=0:=fun i hi => by
  rw [sum_cols _ hi,es,sm_congr d.n _ (fun k => d.A i k * z k) fun k hk => by rw [e0 k hk]]; grind
 have hb:∀ s,s < d.m→e (B s)=0:=by
  have hsum:∀ i,i < d.m→sm d.m (fun t => e (B t) * d.col (B t) i)=sm d.m (fun t => (fun _ => (0:Rat)) t * d.col (B t) i):=fun i hi => by
   have e1:=hrow i hi;have e2:sm d.w (fun v => e v * d.col v i)=sm d.w (fun v => sm d.m (fun t => if B t=v then e (B t) else 0) * d.col v i):=sm_congr _ _ _ fun v hv => by
    by_cases hin:∃ s,s < d.m∧B s=v
    ·obtain ⟨s,hs,rfl⟩:=hin;rw [sm_one d.m s _ hs fun k hk hne => if_neg fun ee => hne (h.inj hk hs ee),if_pos rfl]
    ·have hno:∀ t,t < d.m→B t ≠ v:=fun t ht ee => hin ⟨t,ht,ee⟩
     rw [hz v hv (pnt_out hno),sm_congr d.m _ (fun _ => 0) fun t ht => if_neg (hno t ht),sm_zero]
   rw [e2,sum_pnt h (fun t => e (B t)) (fun v => d.col v i)] at e1;rw [e1,sm_congr d.m _ (fun _ => 0) fun t _ => by grind];exact (sm_zero _).symm
  exact h.uniq (fun t => e (B t)) (fun _ => 0) hsum
 intro k hk;rw [← e0 k hk]
 by_cases hin:∃ s,s < d.m∧B s=k
 ·obtain ⟨s,hs,rfl⟩:=hin;exact hb s hs
 ·exact hz k (by unfold Dat.w; omega) (pnt_out fun t ht ee => hin ⟨t,ht,ee⟩)
end
end Sx
namespace Sx
open Du
section
variable {d : Dat} {T T' : Nat → Nat → Rat} {B B' : Nat → Nat} {k r : Nat}
end
section
variable {d : Dat} {n : Nat} {T : Nat → Nat → Nat → Rat} {B : Nat → Nat → Nat} {e l : Nat → Nat}
end
end Sx
