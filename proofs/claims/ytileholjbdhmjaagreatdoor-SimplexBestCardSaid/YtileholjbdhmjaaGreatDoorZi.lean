/-
  The statement SimplexBest.
-/
import Derived.Test.YtileholjbdhmjaaGreatDoorZh
import Derived.Test.YtileholjbdhmjaaGreatDoorTa
set_option linter.unusedVariables false
set_option linter.unusedSimpArgs false
set_option maxRecDepth 100000
set_option maxHeartbeats 25600000
namespace Go.Proofs.YtileholjbdhmjaaGreatDoor
open Go.RowKit
theorem best_law (A:List (List Int)) (B C:List Int) (aA aB aC:Option Addr) (cA cB cC:Nat) (w:World) (hA:A.length<=9223372036854775807) (hB:B.length<=9223372036854775807) (hC:C.length<=9223372036854775807)
  (hAl:Hid (∀ row∈A,row.length<=9223372036854775807)) (hAr:Hid (∀ row∈A,∀ z∈row,-128<=z/\z<=127)) (hBr:Hid (∀ z∈B,0<=z/\z<=255)) (hCr:Hid (∀ z∈C,-128<=z/\z<=127)) (uA:UR w aA A) (uB:UK .u8 w aB B) (uC:UK .i8 w aC C) (hE:Env w) :
  Calls Tryz.prog 4 #[.agg #[.slice aA A.length cA,.slice aB B.length cB,.slice aC C.length cC]] w λ e w' => e=.returned (.bool true)/\Below w.heap.size w w':=by
 go_enter Tryz.func4,Tryz.ntmps4;go_upto_region 1 with fail;have hb:=bA w (.cells #[.slice aA A.length cA,.slice aB B.length cB,.slice aC C.length cC] 26);have rD:Row (w.alloc (.cells #[.slice aA A.length cA,.slice aB B.length cB,.slice aC C.length cC] 26)) w.heap.size 26 [.slice aA A.length cA,.slice aB B.length cB,.slice aC C.length cC]:=heap_alloc_new _ _;obtain ⟨g,hg⟩:=exi (w.heap.size);rw [<- hg] at rD |-;clear hg;generalize w.alloc (.cells #[.slice aA A.length cA,.slice aB B.length cB,.slice aC C.length cC] 26)=w1 at *;have uA:=uA.mono hb;have uB:=uB.mono hb;have uC:=uC.mono hb;have hE:=hE.mono hb;have hbw:=hb;clear hb;obtain ⟨x0,x1,x2⟩:=rD.n3;go_wp2_with fail;(with_reducible refine (made_wp A B C aA aB aC cA cB cC w1 hA hB hC hAl hAr hBr hCr uA uB uC hE).mono ?_);rintro e w2 ⟨hM,hb⟩;have uA:=uA.mono hb;have uB:=uB.mono hb;have uC:=uC.mono hb;have hE:=hE.mono hb;have rD:=rD.below hb;have hbw:=bu hbw hb;clear hb;clear x0 x1 x2 hAl hAr hBr hCr uA uB uC hA hB hC rD;rcases hM with rfl | ⟨A,b,C,m,n,pA,qA,pB,qB,pC,qC,rfl,HW,hmn,hP⟩
 ·go_upto_region 2 with fail;have hb:=bA w2 (.cells #[.slice none 0 0,.slice none 0 0,.slice none 0 0] 30);have rP:Row (w2.alloc (.cells #[.slice none 0 0,.slice none 0 0,.slice none 0 0] 30)) w2.heap.size 30 [.slice none 0 0,.slice none 0 0,.slice none 0 0]:=heap_alloc_new _ _;obtain ⟨gP,hg⟩:=exi (w2.heap.size);rw [<- hg] at rP  |-;clear hg;generalize w2.alloc (.cells #[.slice none 0 0,.slice none 0 0,.slice none 0 0] 30)=w3 at *;have hE:=hE.mono hb;have hbw:=bu hbw hb;clear hb;go_wp2_with fail;(with_reducible refine (awake13 w3 hE).mono ?_);rintro e w4 ⟨rfl,hb⟩;have hE:=hE.mono hb;have hbw:=bu hbw hb;clear hb;go_wp2_with fail;(with_reducible refine (awake13 w4 hE).mono ?_);rintro e w5 ⟨rfl,hb⟩;have hbw:=bu hbw hb;clear hb;go_wp2;go_ret;exact ⟨rfl,hbw⟩
 ·have HWP:=hii HW;have hm1:=HW.hm;have hn1:=HW.hn;clear HW;go_upto_region 2 with fail;have hb:=bA w2 (.cells #[.slice pA m qA,.slice pB m qB,.slice pC n qC] 30);have rP:Row (w2.alloc (.cells #[.slice pA m qA,.slice pB m qB,.slice pC n qC] 30)) w2.heap.size 30 [.slice pA m qA,.slice pB m qB,.slice pC n qC]:=heap_alloc_new _ _;obtain ⟨gP,hg⟩:=exi (w2.heap.size);rw [<- hg] at rP  |-;clear hg;generalize w2.alloc (.cells #[.slice pA m qA,.slice pB m qB,.slice pC n qC] 30)=w6 at *;have hE:=hE.mono hb;have hP:=hP.mono hb;have hbw:=bu hbw hb;clear hb;go_wp2_with fail;(with_reducible refine (awake13 w6 hE).mono ?_);rintro e w7 ⟨rfl,hb⟩;have hE:=hE.mono hb;have hP:=hP.mono hb;have rP:=rP.below hb;have hbw:=bu hbw hb;clear hb
  by_cases hm4:m<=4
  ·by_cases hn4:n<=4
   ·have hgm:¬ (4:Int) < (m:Int):=by omega
    have hgn:¬ (4:Int) < (n:Int):=by omega
    obtain ⟨x0,x1,x2⟩:=rP.n3;go_wp2_with fail;(with_reducible refine (HWP.out.own pA pB pC qA qB qC w7 hP).mono ?_);rintro e w8 ⟨⟨oA,kA,oB,kB,oC,kC,rfl,hO⟩,hb⟩;have hE:=hE.mono hb;have hP:=hP.mono hb;have rP:=rP.below hb;have hbw:=bu hbw hb;clear hb;clear x0 x1 x2 hgm hgn;go_wp2_with fail;(with_reducible refine (HWP.out.solve (by omega) oA oB oC kA kB kC w8 hO hE).mono ?_);rintro e w9 ⟨hS,hb⟩;have hE:=hE.mono hb;have hP:=hP.mono hb;have rP:=rP.below hb;have hO:=hO.mono hb;have hbw:=bu hbw hb;clear hb;clear hO;rcases hS with ⟨ng1,ao1,n1,cap1,nh1,ap1,m1,caq1,ax,cx,ay,cy,val,X,Y,rfl,hV,ux,uy,hX⟩ | ⟨Z,rfl,hZ⟩
    ·have HX:=hii hX;clear hX ux uy;go_upto_region 5 with fail;have hb:=bA w9 (.cells #[.bool ng1,.slice ao1 n1 cap1,.bool nh1,.slice ap1 m1 caq1,.slice ax n cx,.slice ay m cy] 40);have rO:Row (w9.alloc (.cells #[.bool ng1,.slice ao1 n1 cap1,.bool nh1,.slice ap1 m1 caq1,.slice ax n cx,.slice ay m cy] 40)) w9.heap.size 40 [.bool ng1,.slice ao1 n1 cap1,.bool nh1,.slice ap1 m1 caq1,.slice ax n cx,.slice ay m cy]:=heap_alloc_new _ _;obtain ⟨gO,hg⟩:=exi (w9.heap.size);rw [<- hg] at rO  |-;clear hg;generalize w9.alloc (.cells #[.bool ng1,.slice ao1 n1 cap1,.bool nh1,.slice ap1 m1 caq1,.slice ax n cx,.slice ay m cy] 40)=w10 at *;have hE:=hE.mono hb;have hP:=hP.mono hb;have rP:=rP.below hb;have hV:=hV.mono hb;have hbw:=bu hbw hb;clear hb;go_upto_region 7 with fail;have HKv:=hii (HX.out.list HWP.out).2;refine wp_region_vals (wx:=w10) [(λ _ v => v=.pointer (some ⟨gO,0,none⟩)),(λ _ v => v=.agg #[.bool ng1,.slice ao1 n1 cap1,.bool nh1,.slice ap1 m1 caq1]),(λ _ v => v=.agg #[.slice pA m qA,.slice pB m qB,.slice pC n qC]),(λ W v => RatV W v val),(λ _ v => v=.tuple #[.int .i64 0,.int .i64 0]),(λ _ v => v=.tuple #[.int .i64 0,.int .i64 0]),(λ _ v => v=.int .i64 0),(λ _ v => v=.int .i64 0),(λ _ v => v=.int .i64 0),(λ _ v => v=.int .i64 0)] [42,43,44,45,46,41,47,48,7,8] (by kernel_rfl) (by kernel_rfl) (by kernel_rfl) (of_decide_eq_true (by kernel_rfl)) br ⟨sV _,sV _,sV _,λ _ _ _ h hb => h.mono hb,sV _,sV _,sV _,sV _,sV _,sV _,trivial⟩ ⟨?s0,?s1,?s2,?s3,?s4,?s5,?s6,?s7,?s8,?s9,trivial⟩ ?he
     case' s0 | s1 | s2 | s3 | s4 | s5 | s6 | s7 | s8 | s9 =>
      rintro T W hb hA K hK
     case' s0 =>
      simp only [ovr,Act.put,sT,sZ,sS] at hK |-
     case' s5 =>
      have e4:T 46=.tuple #[.int .i64 0,.int .i64 0]:=hA.1;simp only [ovr,Act.put,sT,sZ,sS,e4] at hK |-
     case' s6 | s7 =>
      have e5:T 41=.tuple #[.int .i64 0,.int .i64 0]:=hA.1;simp only [ovr,Act.put,sT,sZ,sS,e5] at hK |-
     case' s8 =>
      have e6:T 47=.int .i64 0:=hA.1;simp only [ovr,Act.put,sT,sZ,sS,e6] at hK |-
     case' s9 =>
      have e7:T 48=.int .i64 0:=hA.1;simp only [ovr,Act.put,sT,sZ,sS,e7] at hK |-
     case' s1 =>
      have e0:T 42=.pointer (some ⟨gO,0,none⟩):=hA.1;simp only [ovr,Act.put,sT,sZ,sS,e0] at hK |-;have HK:=hii hK;clear hK hA;obtain ⟨y0,y1,y2,y3,y4,y5⟩:=(rO.below hb).n6
     case' s2 =>
      simp only [ovr,Act.put,sT,sZ,sS] at hK |-;have HK:=hii hK;clear hK hA;obtain ⟨x0,x1,x2⟩:=(rP.below hb).n3
     case s0 | s5 | s6 | s7 | s8 | s9 =>
      have HK:=hii hK;clear hK hA;refine wO rfl (by rfl) ?_;go_simp;exact HK.out _ _ br (rfl)
     case s1 | s2 =>
      refine wO rfl (by rfl) ?_;go_simp;exact HK.out _ _ br (rfl)
     case s3 =>
      have e2:T 44=.agg #[.slice pA m qA,.slice pB m qB,.slice pC n qC]:=hA.1;simp only [ovr,Act.put,sT,sZ,sS,e2] at hK |-;have HK:=hii hK;clear hK hA;refine wO rfl (by rfl) ?_;go_simp;(with_reducible refine (rbest13_ok HWP HX hm4 hn4 pA pB pC qA qB qC W (hP.mono hb) (hE.mono hb)).mono ?_);rintro e w1 ⟨hz,hb1⟩;obtain ⟨ng5,ao5,n5,cap5,nh5,ap5,m5,caq5,rfl,hV5⟩:=hz.rat
      try dsimp only
      exact HK.out _ _ hb1 (hV5)
     case s4 =>
      have e1:T 43=.agg #[.bool ng1,.slice ao1 n1 cap1,.bool nh1,.slice ap1 m1 caq1]:=hA.1;have r3:((λ W v => RatV W v val):World->Value->Prop) W (T 45):=hA.2.1;simp only [ovr,Act.put,sT,sZ,sS,e1] at hK |-;have HK:=hii hK;clear hK hA;have r3:RatV W _ val:=r3;obtain ⟨ng6,ao6,n6,cap6,nh6,ap6,m6,caq6,e3⟩:=r3.parts;rw [e3] at r3;simp only [e3] at HK |-;refine wO rfl (by rfl) ?_;go_simp;have HCm:=rCmp_k _ _ val val 0 W (hV.mono hb) r3 (hii (KQ.ok (HKv.out.crS HKv.out (by decide)))) (hE.mono hb);rw [cmpQ_same rfl] at HCm;(with_reducible refine HCm.mono ?_);rintro e w1 ⟨rfl,hb1⟩
      try dsimp only
      exact HK.out _ _ hb1 (rfl)
     case he =>
      rintro T W hb hA;have f8:T 7=.int .i64 0:=hA.at 8 (by decide);have f9:T 8=.int .i64 0:=hA.at 9 (by decide);simp only [ovr,sT,sZ,sS,f8,f9];have hbw:=bu hbw hb;clear hA f8 f9;go_wp2;go_ret;exact ⟨rfl,hbw⟩
    ·go_upto_region 5 with fail;have hb:=bA w9 (.cells #[.bool false,.slice none 0 0,.bool false,.slice none 0 0,.slice none 0 0,.slice none 0 0] 40);have rO:Row (w9.alloc (.cells #[.bool false,.slice none 0 0,.bool false,.slice none 0 0,.slice none 0 0,.slice none 0 0] 40)) w9.heap.size 40 [.bool false,.slice none 0 0,.bool false,.slice none 0 0,.slice none 0 0,.slice none 0 0]:=heap_alloc_new _ _;obtain ⟨gO,hg⟩:=exi (w9.heap.size);rw [<- hg] at rO  |-;clear hg;generalize w9.alloc (.cells #[.bool false,.slice none 0 0,.bool false,.slice none 0 0,.slice none 0 0,.slice none 0 0] 40)=w11 at *;have hbw:=bu hbw hb;clear hb;go_wp2;go_ret;exact ⟨rfl,hbw⟩
   ·have hgm:¬ (4:Int) < (m:Int):=by omega
    have hgn:(4:Int) < (n:Int):=by omega
    obtain ⟨x0,x1,x2⟩:=rP.n3;go_wp2_with fail;(with_reducible refine (awake13 w7 hE).mono ?_);rintro e w12 ⟨rfl,hb⟩;have hbw:=bu hbw hb;clear hb;clear x0 x1 x2;go_wp2;go_ret;exact ⟨rfl,hbw⟩
  ·have hgm:(4:Int) < (m:Int):=by omega
   obtain ⟨x0,x1,x2⟩:=rP.n3;go_wp2_with fail;(with_reducible refine (awake13 w7 hE).mono ?_);rintro e w13 ⟨rfl,hb⟩;have hbw:=bu hbw hb;clear hb;clear x0 x1 x2;go_wp2;go_ret;exact ⟨rfl,hbw⟩
end Go.Proofs.YtileholjbdhmjaaGreatDoor
