/-
  The simplex method: the exchange of two variables.
-/
import Derived.Test.YtfgffkmddanjjaaGreatDoorSd
import Derived.Test.YtfgffkmddanjjaaGreatDoorSf
set_option linter.unusedVariables false
set_option linter.unusedSimpArgs false
set_option maxRecDepth 100000
set_option maxHeartbeats 25600000
namespace Go.Proofs.YtfgffkmddanjjaaGreatDoor
open _root_.Go.Proofs.Tryz
open Go.RowKit
theorem zjZ {B g ga ca gb cb m n q:Nat} {rr cr:Nat->Nat} {L:Nat->Nat->Rat} {bs:Nat->Nat} (i k:Nat) (w:World) (h:TB w B g ga ca gb cb m n q rr cr L bs) (hi:i < m) (hk:k < q) (hS:Hid (∀ i,i<=m->∀ j,j < q + 1->Kb 1 (L i j))) (hne:Hid ((L i k).num ≠ 0)) :
  Calls Tryz.prog 157 #[.pointer (some ⟨g,0,none⟩),.int .i64 (i:Nat),.int .i64 (k:Nat)] w λ e w' => (e=.returned (.tuple #[])/\∃ M cs,znt m q i k L bs M cs/\TB w' B g ga ca gb cb m n q rr cr M cs)/\Below B w w':=by
 have hq2:q<=2000:=by have:=h.wq; have:=h.small; omega
 obtain ⟨hm,hn⟩:=h.small;have hxi:(i:Int) < (m:Int) + 1:=by omega
 have hxk:(k:Int) < (q:Int) + 1:=by omega
 have hbw:=Below.refl B w;obtain ⟨x0,x1,x2,x3,x4⟩:=h.box.n5;have x5:=h.out i (by omega);obtain ⟨J1,ao1,n1,Y1,K1,ap1,m1,Z1,y0,y1,y2,y3,-,-,-,-,V1⟩:=h.cells4 (i:=i) (j:=k) (by omega) (by omega);go_enter func157,ntmps157;go_upto_region 1 with fail;clear x0 x1 x2 x3 x4 x5 y0 y1 y2 y3;have hb:=bA w (.cells #[.bool J1,.slice ao1 n1 Y1,.bool K1,.slice ap1 m1 Z1] 32);have r6:Row (w.alloc (.cells #[.bool J1,.slice ao1 n1 Y1,.bool K1,.slice ap1 m1 Z1] 32)) w.heap.size 32 [.bool J1,.slice ao1 n1 Y1,.bool K1,.slice ap1 m1 Z1]:=heap_alloc_new _ _;obtain ⟨g6,hg⟩:=exi (w.heap.size);have H6:Hid (∀ t,t<=m->g6 ≠ rr t):=hii λ t ht => by have:=(h.lowR ht).2; omega
 rw [<- hg] at r6 |-;clear hg;generalize w.alloc (.cells #[.bool J1,.slice ao1 n1 Y1,.bool K1,.slice ap1 m1 Z1] 32)=w1 at *;have hbw:=Below.step hbw hb h.size;have V1:=V1.mono hb;have h:=h.mono hb;clear hb;have HPA:Hid (PA i k L L 0):=hii .start;obtain ⟨x0,x1,x2,x3,x4⟩:=h.box.n5;have x5:=h.out i (by omega);go_wp2_with fail;clear x0 x1 x2 x3 x4 x5;go_loopw [30] (λ s wr => ∃ (j:Nat) (M:Nat->Nat->Rat),j<=q + 1/\s=.int .i64 (j:Nat)/\Hid (PA i k L M j)/\TB wr B g ga ca gb cb m n q rr cr M bs/\Row wr g6 32 [.bool J1,.slice ao1 n1 Y1,.bool K1,.slice ap1 m1 Z1]/\zac wr (qA J1 ao1 n1 Y1 K1 ap1 m1 Z1) (L i k)/\Below B w wr) (λ s _ => q + 1 - (intOf s).toNat)
 case atStart => exact ⟨0,L,Nat.zero_le _,rfl,HPA,h,r6,V1,hbw⟩
 case round =>
  clear h r6 V1 hbw HPA;obtain ⟨j,M,hj,rfl,HPA,h,r6,V1,hbw⟩:=hrel
  by_cases hlt:j < q + 1
  ·have HDS:Hid (zk0 (L i j) (L i k)):=hii ((hS.out i (by omega) j hlt).divS (hS.out i (by omega) k (by omega)) (by decide));have HVR:RK (λ b => b=rr i) (L i k) wr (.agg #[.bool J1,.slice ao1 n1 Y1,.bool K1,.slice ap1 m1 Z1]):=V1.rk (h.noG (by omega));have him:i<=m:=by omega
   have hxj:(j:Int) < (q:Int) + 1:=by omega
   go_upto_region 4 with fail;refine pv4 (L:=L) (k:=k) h him hlt (HPA.out.2.1 j (by omega)) r6 V1 hne HDS ?_;rintro T wf hR hkf;have HPA:=hii HPA.out.step;have hbw:Below B w wf:=hbw.trans (hkf.below (λ b e => by subst e; exact (h.lowR him).1) h.size);have r6:=r6.mono hkf (H6.out i him);have V1:=RK.at HVR hkf;clear h;have h:=hR;clear hR hkf HVR hxj;go_wp2;go_roundw
   case rel => exact ⟨j + 1,_,by omega,by go_num,HPA,h,r6,V1,hbw⟩
   case measure => simp [intOf]; omega
  ·have hje:j=q + 1:=by omega
   have HPB:Hid (PVT q i k L M 0):=hii (PA.done (by rw [<- hje]; exact HPA.out));have hjd:decide ((j:Int) < (q:Int) + 1)=false:=decide_eq_false (by omega);clear HPA r6 V1 hje hj hlt;obtain ⟨x0,x1,x2,x3,x4⟩:=h.box.n5;obtain ⟨wo,rfl⟩:=exi wr;go_wp2_with fail;clear x0 x1 x2 x3 x4;go_loopw [64] (λ s wr => ∃ (t:Nat) (M:Nat->Nat->Rat),t<=m + 1/\s=.int .i64 (t:Nat)/\Hid (PVT q i k L M t)/\TB wr B g ga ca gb cb m n q rr cr M bs/\Below B w wr) (λ s _ => m + 1 - (intOf s).toNat)
   case atStart => exact ⟨0,M,Nat.zero_le _,rfl,HPB,h,hbw⟩
   case round =>
    clear h hbw HPB;obtain ⟨t,M,ht,rfl,HPB,h,hbw⟩:=hrel
    by_cases hlt:t < m + 1
    ·have htm:t<=m:=by omega
     have hxt:(t:Int) < (m:Int) + 1:=by omega
     obtain ⟨x0,x1,x2,x3,x4⟩:=h.box.n5;have x5:=h.out t htm;obtain ⟨J2,ao2,n2,Y2,K2,ap2,m2,Z2,y0,y1,y2,y3,-,-,-,-,V2⟩:=h.cells4 (i:=t) (j:=k) htm (by omega);go_upto_region 10 with fail;clear x0 x1 x2 x3 x4 x5 y0 y1 y2 y3;have hb:=bA wr (.cells #[.bool J2,.slice ao2 n2 Y2,.bool K2,.slice ap2 m2 Z2] 32);have r9:Row (wr.alloc (.cells #[.bool J2,.slice ao2 n2 Y2,.bool K2,.slice ap2 m2 Z2] 32)) wr.heap.size 32 [.bool J2,.slice ao2 n2 Y2,.bool K2,.slice ap2 m2 Z2]:=heap_alloc_new _ _;obtain ⟨g9,hg⟩:=exi (wr.heap.size);have H9:Hid (g9 ≠ rr t):=hii (by have:=(h.lowR htm).2; omega);rw [<- hg] at r9 |-;clear hg;generalize wr.alloc (.cells #[.bool J2,.slice ao2 n2 Y2,.bool K2,.slice ap2 m2 Z2] 32)=w1 at *;have hbw:=Below.step' hbw hb h.size;have V2:=V2.mono hb;have h:=h.mono hb;clear hb
     by_cases hti:t=i
     ·have HPB2:=hii (HPB.out.self hti);have gt:((t:Int) == (i:Int))=true:=by simp [hti]
      clear HPB;go_wp2;go_roundw
      case rel => exact ⟨t + 1,M,by omega,by go_num,HPB2,h,hbw⟩
      case measure => simp [intOf]; omega
     ·have Hti:=hii hti;have gt:((t:Int) == (i:Int))=false:=by simp; omega
      clear hti;rw [HPB.out.row Hti.out] at V2;obtain ⟨s,hs⟩:∃ s,zaU (L t k).num=s:=⟨_,rfl⟩;have Hs:=hii hs;clear hs;obtain ⟨f0,f1,f2,f3⟩:=r9.n4;go_wp2_with fail;go_fit (zbw _ (L t k) s w1 Hs V2 h.Env');rintro e w2 ⟨rfl,hb⟩;have hbw:=Below.step' hbw hb h.size;have V2:=V2.mono hb;have h:=h.mono hb;have r9:=r9.below hb;clear hb f0 f1 f2 f3
      by_cases hs0:s=0
      ·subst hs0;have HPB2:=hii (HPB.out.zero Hti.out (Rat.num_eq_zero.1 ((zcz _).1 Hs.out)));clear HPB;go_wp2;go_roundw
       case rel => exact ⟨t + 1,M,by omega,by go_num,HPB2,h,hbw⟩
       case measure => simp [intOf]; omega
      ·have g0:(s == 0)=false:=by simpa using hs0
       have HPC:Hid (PC k t i L M M 0):=hii (.start HPB.out Hti.out);have HMi:Hid (∀ c,c < q + 1->Kb 2 (M i c)):=hii λ c hc => by
        rw [HPB.out.1 c hc]; exact (hS.out i (by omega) c hc).div (hS.out i (by omega) k (by omega)) hne.out
       clear hs0;obtain ⟨x0,x1,x2,x3,x4⟩:=h.box.n5;have x5:=h.out i (by omega);obtain ⟨wq,rfl⟩:=exi w2;go_wp2_with fail;clear x0 x1 x2 x3 x4 x5 g0 gt;go_loopw [93] (λ s wr => ∃ (j:Nat) (M':Nat->Nat->Rat),j<=q + 1/\s=.int .i64 (j:Nat)/\Hid (PC k t i L M M' j)/\TB wr B g ga ca gb cb m n q rr cr M' bs/\Row wr g9 32 [.bool J2,.slice ao2 n2 Y2,.bool K2,.slice ap2 m2 Z2]/\zac wr (qA J2 ao2 n2 Y2 K2 ap2 m2 Z2) (L t k)/\Below B w wr) (λ s _ => q + 1 - (intOf s).toNat)
       case atStart => exact ⟨0,M,Nat.zero_le _,rfl,HPC,h,r9,V2,hbw⟩
       case round =>
        clear h r9 V2 hbw HPC;obtain ⟨j,M',hj,rfl,HPC,h,r9,V2,hbw⟩:=hrel
        by_cases hlj:j < q + 1
        ·have hxj:(j:Int) < (q:Int) + 1:=by omega
         have x6:=h.out i (by omega);obtain ⟨J3,ao3,n3,Y3,K3,ap3,m3,Z3,y0,y1,y2,y3,-,-,-,-,V3⟩:=h.cells4 (i:=i) (j:=j) (by omega) hlj;rw [HPC.out.1 i (λ e => Hti.out e.symm)] at V3;go_upto_region 14 with fail;clear x6 y0 y1 y2 y3;have hb:=bA wr (.cells #[.bool J3,.slice ao3 n3 Y3,.bool K3,.slice ap3 m3 Z3] 32);have r11:Row (wr.alloc (.cells #[.bool J3,.slice ao3 n3 Y3,.bool K3,.slice ap3 m3 Z3] 32)) wr.heap.size 32 [.bool J3,.slice ao3 n3 Y3,.bool K3,.slice ap3 m3 Z3]:=heap_alloc_new _ _;obtain ⟨g11,hg⟩:=exi (wr.heap.size);rw [<- hg] at r11 |-;clear hg;generalize wr.alloc (.cells #[.bool J3,.slice ao3 n3 Y3,.bool K3,.slice ap3 m3 Z3] 32)=w3 at *;have hbw:=Below.step' hbw hb h.size;have V2:=V2.mono hb;have V3:=V3.mono hb;have r9:=r9.below hb;have h:=h.mono hb;clear hb;obtain ⟨sx,hsx⟩:∃ s,zaU (M i j).num=s:=⟨_,rfl⟩;have Hsx:=hii hsx;clear hsx;obtain ⟨f0,f1,f2,f3⟩:=r11.n4;go_wp2_with fail;go_fit (zbw _ (M i j) sx w3 Hsx V3 h.Env');rintro e w4 ⟨rfl,hb⟩;have hbw:=Below.step' hbw hb h.size;have V2:=V2.mono hb;have V3:=V3.mono hb;have r9:=r9.below hb;have r11:=r11.below hb;have h:=h.mono hb;clear hb f0 f1 f2 f3
         by_cases hx0:sx=0
         ·subst hx0;have HPC2:=hii (HPC.out.zero (Rat.num_eq_zero.1 ((zcz _).1 Hsx.out)));clear HPC;go_wp2;go_roundw
          case rel => exact ⟨j + 1,M',by omega,by go_num,HPC2,h,r9,V2,hbw⟩
          case measure => simp [intOf]; omega
         ·have gx:(sx != 0)=true:=by simpa using hx0
          have HMS:Hid (zdH (L t k) (M i j)):=hii ((hS.out t htm k (by omega)).mulS (HMi.out j hlj) (by decide));have HSS:Hid (zl2 (L t j) (L t k * M i j)):=hii ((hS.out t htm j hlj).subS ((hS.out t htm k (by omega)).mul (HMi.out j hlj)) (by decide));clear hx0;have HVR:RK (λ b => b=rr t) (L t k) w4 (.agg #[.bool J2,.slice ao2 n2 Y2,.bool K2,.slice ap2 m2 Z2]):=V2.rk (h.noG htm);obtain ⟨x0,x1,x2,x3,x4⟩:=h.box.n5;go_upto_region 15 with fail;clear x0 x1 x2 x3 x4;refine zoj (f:=L t k) (x:=M i j) (y:=L t j) h htm hlj (HPC.out.2.2 j (by omega)) r9 r11 V2 V3 HMS HSS ?_;rintro T wf hR hkf;have HPC:=hii HPC.out.step;have hbw:Below B w wf:=hbw.trans (hkf.below (λ b e => by subst e; exact (h.lowR htm).1) h.size);have r9:=r9.mono hkf H9.out;have V2:=RK.at HVR hkf;clear h;have h:=hR;clear hR hkf V3 HVR r11 gx;go_wp2;go_roundw
          case rel => exact ⟨j + 1,_,by omega,by go_num,HPC,h,r9,V2,hbw⟩
          case measure => simp [intOf]; omega
        ·have hje:j=q + 1:=by omega
         have HPB2:Hid (PVT q i k L M' (t + 1)):=hii (PC.done HPB.out Hti.out (by rw [<- hje]; exact HPC.out));have hjd2:decide ((j:Int) < (q:Int) + 1)=false:=decide_eq_false (by omega);clear HPB HPC hje hj hlj;go_wp2;go_roundw
         case rel => exact ⟨t + 1,M',by omega,by go_num,HPB2,h,hbw⟩
         case measure => simp [intOf]; omega
    ·have hte:t=m + 1:=by omega
     have HPV:Hid (znt m q i k L bs M λ t => if t=i then k else bs t):=hii (PVT.piv (by rw [<- hte]; exact HPB.out));have htd:decide ((t:Int) < (m:Int) + 1)=false:=decide_eq_false (by omega);clear hte ht hlt;obtain ⟨x0,x1,x2,x3,x4⟩:=h.box.n5;obtain ⟨b0,b1⟩:=h.basAt hi;have hs:=h.bset hi k;have Hs:=hii hs;clear hs HPB;go_wp2;go_end0;exact ⟨⟨rfl,M,_,HPV.out,Hs.out.1⟩,hbw.trans (Hs.out.2.below (λ b e => by subst e; exact h.lowB.1) h.size)⟩
end Go.Proofs.YtfgffkmddanjjaaGreatDoor
