/-
  The simplex method: the leaving row.
-/
import Derived.Test.YtfgffkmddanjjaaGreatDoorSc
set_option linter.unusedVariables false
set_option linter.unusedSimpArgs false
set_option maxRecDepth 100000
set_option maxHeartbeats 25600000
namespace Go.Proofs.YtfgffkmddanjjaaGreatDoor
open _root_.Go.Proofs.Tryz
open Go.RowKit
theorem zhz {B g ga ca gb cb m n q:Nat} {rr cr:Nat->Nat} {L:Nat->Nat->Rat} {bs:Nat->Nat} (k:Nat) (w:World) (h:TB w B g ga ca gb cb m n q rr cr L bs) (hk:k < q) (hS:Hid (∀ i,i<=m->∀ j,j < q + 1->Kb 1 (L i j))) :
  Calls Tryz.prog 156 #[.pointer (some ⟨g,0,none⟩),.int .i64 (k:Nat)] w λ e w' => (∃ z:Int,e=.returned (.int .i64 z)/\Hid (zob k q L bs m z))/\BH w w':=by
 have hq2:q<=2000:=by have:=h.wq; have:=h.small; omega
 obtain ⟨hm,hn⟩:=h.small;go_enter func156,ntmps156;go_upto_region 3 with fail;have hb:=bA w (.cells #[.bool false,.slice none 0 0,.bool false,.slice none 0 0] 32);have r6:Row (w.alloc (.cells #[.bool false,.slice none 0 0,.bool false,.slice none 0 0] 32)) w.heap.size 32 [.bool false,.slice none 0 0,.bool false,.slice none 0 0]:=heap_alloc_new _ _;obtain ⟨g6,hg⟩:=exi (w.heap.size);have Hg6:Hid (w.heap.size=g6):=hii hg.symm;rw [<- hg] at r6 |-;clear hg;generalize w.alloc (.cells #[.bool false,.slice none 0 0,.bool false,.slice none 0 0] 32)=w1 at *;have hbw:=hb;clear hb;obtain ⟨x0,x1,x2,x3,x4⟩:=(h.mono hbw).box.n5;go_wp2_with fail;clear x0 x1 x2 x3 x4;go_loopw [5,15] (λ s5 s15 wr => ∃ (i:Nat) (z:Int) (ls:Rat) (J1:Bool) (ao1:Option Addr) (n1 Y1:Nat) (K1:Bool) (ap1:Option Addr) (m1 Z1:Nat),i<=m/\s15=.int .i64 (i:Nat)/\s5=.int .i64 z/\Hid (zdI k q L bs i z ls)/\Row wr g6 32 [.bool J1,.slice ao1 n1 Y1,.bool K1,.slice ap1 m1 Z1]/\Hid (0<=z->zac wr (qA J1 ao1 n1 Y1 K1 ap1 m1 Z1) ls/\Kb 2 ls)/\BH w wr) (λ _ s15 _ => m - (intOf s15).toNat)
 case atStart => exact ⟨0,-1,0,false,none,0,0,false,none,0,0,Nat.zero_le _,rfl,rfl,hii .start,r6,hii (λ h => absurd h (by decide)),hbw⟩
 case round =>
  clear hbw r6;obtain ⟨i,z,ls,J1,ao1,n1,Y1,K1,ap1,m1,Z1,hi,rfl,rfl,HL,r6,HR,hbw⟩:=hrel
  by_cases hlt:i < m
  ·obtain ⟨x0,x1,x2,x3,x4⟩:=(h.mono hbw).box.n5;have x5:=(h.mono hbw).out i (by omega);have hxi:(i:Int) < (m:Int) + 1:=by omega
   have hxk:(k:Int) < (q:Int) + 1:=by omega
   obtain ⟨J2,ao2,n2,Y2,K2,ap2,m2,Z2,y0,y1,y2,y3,-,-,-,-,V2⟩:=(h.mono hbw).cells4 (i:=i) (j:=k) (by omega) (by omega);obtain ⟨s,hs⟩:∃ s,zaU (L i k).num=s:=⟨_,rfl⟩;have Hs:=hii hs;clear hs;go_wp2_with fail;go_fit (zbw _ (L i k) s wr Hs V2 (h.mono hbw).Env');rintro e w2 ⟨rfl,hb⟩;have hbw:=bu hbw hb;have r6:=r6.below hb;have HR:Hid (0<=z->zac w2 (qA J1 ao1 n1 Y1 K1 ap1 m1 Z1) ls/\Kb 2 ls):=hii λ h0 => ⟨(HR.out h0).1.mono hb,(HR.out h0).2⟩
   have V2:=V2.mono hb;clear hb x0 x1 x2 x3 x4 x5 y0 y1 y2 y3 hxi hxk V2
   by_cases hs0:s<=0
   ·have hnp:¬ 0 < L i k:=λ h0 => (zgy _).1 (by rw [Hs.out]; exact hs0) (zep.1 h0)
    have HL2:=hii (HL.out.skip hnp);clear hnp;go_wp2;go_roundw
    case rel => exact ⟨i + 1,z,ls,J1,ao1,n1,Y1,K1,ap1,m1,Z1,by omega,by go_num,rfl,HL2,r6,HR,hbw⟩
    case measure => simp [intOf]; omega
   ·have hp:0 < L i k:=zep.2 (by have:=(zgy (L i k).num); rw [Hs.out] at this; omega);have Hp:=hii hp;have Hne:Hid ((L i k).num ≠ 0):=hii (by have:=zep.1 hp; omega);clear hp;have HKa:Hid (Kb 1 (L i q)):=hii (hS.out i (by omega) q (by omega));have HKb:Hid (Kb 1 (L i k)):=hii (hS.out i (by omega) k (by omega));have HDS:Hid (zk0 (L i q) (L i k)):=hii (HKa.out.divS HKb.out (by decide));have HKq:Hid (Kb 2 (L i q / L i k)):=hii (HKa.out.div HKb.out Hne.out);obtain ⟨rq,hrq⟩:∃ rq,rq=L i q / L i k:=⟨_,rfl⟩;have Hrq:=hii hrq;have Hl6:=hii r6.lt;clear hrq;go_upto_region 7 with fail;refine lv7 (h.mono hbw) hlt hk Hne HDS Hrq ?_;rintro T w3 g8 J5 ao5 n5 Y5 K5 ap5 m5 Z5 hge r8 V5 hb;have r6:=r6.below hb;have HR:Hid (0<=z->zac w3 (qA J1 ao1 n1 Y1 K1 ap1 m1 Z1) ls/\Kb 2 ls):=hii λ h0 => ⟨(HR.out h0).1.mono hb,(HR.out h0).2⟩
    have hbw:=bu hbw hb;have H68:Hid (g8 ≠ g6):=hii (by have:=Hl6.out; omega);clear hb hge HDS HKa HKb;have HZ:=HL.out;obtain ⟨x0,x1,x2,x3,x4⟩:=(h.mono hbw).box.n5;rcases HZ with ⟨rfl,-⟩ | ⟨r,rfl,hr,-,hls,-⟩
    ·have HL2:Hid (zdI k q L bs (i + 1) (i:Int) rq):=hii (by rw [Hrq.out]; exact HL.out.first Hp.out);clear HL;go_upto_region 16 with fail;refine znE r8 r6 ?_;rintro T w9 hR hk9;have hno:=r6.noU (λ u hu => by simp at hu; rcases hu with rfl | rfl | rfl | rfl <;> intro z e <;> cases e);have V5:=V5.keptU hk9 hno;have hbw:=hbw.trans (hk9.below (λ b e => by have:=Hg6.out; omega) hbw.size);clear hno hk9 r6 r8;go_wp2;go_roundw
     case rel => exact ⟨i + 1,(i:Int),rq,J5,ao5,n5,Y5,K5,ap5,m5,Z5,by omega,by go_num,rfl,HL2,hR,hii (λ _ => ⟨V5,by rw [Hrq.out]; exact HKq.out⟩),hbw⟩
     case measure => simp [intOf]; omega
    ·obtain ⟨HV1,HK1⟩:=HR.out (by omega);have HVV:=hii HV1;have HCR:Hid (CrS rq ls):=hii (by rw [Hrq.out]; exact HKq.out.crS HK1 (by decide));have Hls:=hii hls;have HK1:=hii HK1;clear hls HV1;obtain ⟨c,hc⟩:∃ c,c=Rq.cmpQ rq ls:=⟨_,rfl⟩;have HCM:=hii (zjo (.agg #[.bool J5,.slice ao5 n5 Y5,.bool K5,.slice ap5 m5 Z5]) (.agg #[.bool J1,.slice ao1 n1 Y1,.bool K1,.slice ap1 m1 Z1]) rq ls w3 V5 HVV.out HCR (h.mono hbw).Env');rw [<- hc] at HCM;have Hc:=hii hc;clear hc;obtain ⟨f0,f1,f2,f3⟩:=r8.n4;obtain ⟨k0,k1,k2,k3⟩:=r6.n4;go_wp2_with fail;go_fit (HCM.out);rintro e w4 ⟨rfl,hb⟩;have r6:=r6.below hb;have r8:=r8.below hb;have V5:=V5.mono hb;have HVV:=hii (HVV.out.mono hb);have hbw:=bu hbw hb;clear hb x0 x1 x2 x3 x4 f0 f1 f2 f3 k0 k1 k2 k3 HCM HR;have hrm:r < m:=by omega
     have hc3:0 < c\/c < 0\/c=0:=by omega
     have hc3:=hii hc3;go_upto_region 15 with fail;rcases hc3.out with hc | hc | hc
     ·refine zlv hc ?_;rintro T w5 hb;have r6:=r6.below hb;have HVV:=hii (HVV.out.mono hb);have hbw:=bu hbw hb;clear hb;have HL2:Hid (zdI k q L bs (i + 1) (r:Int) ls):=hii (HL.out.worse rfl (.inl (by rw [<- Hrq.out]; exact zlL.1 (by rw [<- Hc.out]; exact hc))));clear hc;clear HL;go_wp2;go_roundw
      case rel => exact ⟨i + 1,(r:Int),ls,J1,ao1,n1,Y1,K1,ap1,m1,Z1,by omega,by go_num,rfl,HL2,r6,hii (λ _ => ⟨HVV.out,HK1.out⟩),hbw⟩
      case measure => simp [intOf]; omega
     ·refine zlw hc ?_;rintro T w5 hb;have r6:=r6.below hb;have r8:=r8.below hb;have V5:=V5.mono hb;have HVV:=hii (HVV.out.mono hb);have hbw:=bu hbw hb;clear hb;have HL2:Hid (zdI k q L bs (i + 1) (i:Int) rq):=hii (by rw [Hrq.out]; exact HL.out.better rfl Hp.out (.inl (by rw [<- Hrq.out]; exact zlK.1 (by rw [<- Hc.out]; exact hc))));clear HL hc;go_upto_region 16 with fail;refine znE r8 r6 ?_;rintro T w9 hR hk9;have hno:=r6.noU (λ u hu => by simp at hu; rcases hu with rfl | rfl | rfl | rfl <;> intro z e <;> cases e);have V5:=V5.keptU hk9 hno;have hbw:=hbw.trans (hk9.below (λ b e => by have:=Hg6.out; omega) hbw.size);clear hno hk9 r6 r8;go_wp2;go_roundw
      case rel => exact ⟨i + 1,(i:Int),rq,J5,ao5,n5,Y5,K5,ap5,m5,Z5,by omega,by go_num,rfl,HL2,hR,hii (λ _ => ⟨V5,by rw [Hrq.out]; exact HKq.out⟩),hbw⟩
      case measure => simp [intOf]; omega
     ·have HEQ:Hid (rq=ls):=hii (ziV.1 (by rw [<- Hc.out]; exact hc));subst hc;refine zmN (h.mono hbw) hlt hrm ?_;rintro T w5 hb;have r6:=r6.below hb;have r8:=r8.below hb;have V5:=V5.mono hb;have HVV:=hii (HVV.out.mono hb);have hbw:=bu hbw hb;clear hb
      by_cases hbb:bs r < bs i
      ·have hb1:decide (bs r < bs i)=true:=decide_eq_true hbb;have HL2:Hid (zdI k q L bs (i + 1) (r:Int) ls):=hii (HL.out.worse rfl (.inr ⟨by rw [<- Hrq.out]; exact HEQ.out.symm,by omega⟩));clear HL;go_wp2;go_roundw
       case rel => exact ⟨i + 1,(r:Int),ls,J1,ao1,n1,Y1,K1,ap1,m1,Z1,by omega,by go_num,rfl,HL2,r6,hii (λ _ => ⟨HVV.out,HK1.out⟩),hbw⟩
       case measure => simp [intOf]; omega
      ·have hb1:decide (bs r < bs i)=false:=decide_eq_false hbb;have HL2:Hid (zdI k q L bs (i + 1) (i:Int) rq):=hii (by rw [Hrq.out]; exact HL.out.better rfl Hp.out (.inr ⟨by rw [<- Hrq.out]; exact HEQ.out,by omega⟩));clear HL;go_upto_region 16 with fail;refine znE r8 r6 ?_;rintro T w9 hR hk9;have hno:=r6.noU (λ u hu => by simp at hu; rcases hu with rfl | rfl | rfl | rfl <;> intro z e <;> cases e);have V5:=V5.keptU hk9 hno;have hbw:=hbw.trans (hk9.below (λ b e => by have:=Hg6.out; omega) hbw.size);clear hno hk9 r6 r8;go_wp2;go_roundw
       case rel => exact ⟨i + 1,(i:Int),rq,J5,ao5,n5,Y5,K5,ap5,m5,Z5,by omega,by go_num,rfl,HL2,hR,hii (λ _ => ⟨V5,by rw [Hrq.out]; exact HKq.out⟩),hbw⟩
       case measure => simp [intOf]; omega
  ·obtain rfl:i=m:=by omega
   have HZ:=hii HL.out.toZ;go_wp2;go_ret;exact ⟨⟨z,rfl,HZ⟩,hbw⟩
end Go.Proofs.YtfgffkmddanjjaaGreatDoor
