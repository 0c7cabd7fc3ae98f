/-
  The law LoadScaled.
-/
import Derived.Test.YtfgffkmddanjjaaGreatDoorMe
import Derived.Test.YtfgffkmddanjjaaGreatDoorLu
set_option linter.unusedVariables false
set_option linter.unusedSimpArgs false
set_option maxRecDepth 100000
set_option maxHeartbeats 25600000
namespace Go.Proofs.YtfgffkmddanjjaaGreatDoor
open _root_.Go.Proofs.Tryz
open Go.RowKit
theorem zj0 {w:World} {B n c:Nat} {ao:Option Addr} {l:List Qo} (h:zaz w B (.slice ao n c) l) (hl:0 < l.length):∃ g,ao=some ⟨g,0,none⟩/\B<=g:=by
 obtain ⟨xs,h1,_⟩:=h;rcases h1.2 with ⟨_,hn⟩ | ⟨g,cap,cur,e,hB,_⟩
 ·omega
 ·simp only [Value.slice.injEq] at e;exact ⟨g,e.1,hB⟩
theorem zir {W:World} {B g n' cap:Nat} {l:List Qo} (h:zaz W B (.slice (some ⟨g,0,none⟩) n' cap) l):NoG (λ k => k=g) W:=λ k hk cur t fr hc u hu => h.choose_spec.2.1 k (by rw [hk]; rfl) cur t fr hc u hu
theorem zmQ {W:World} {g k:Nat} {x y z u:Value}:zaf (λ b => b=g) W ((((W.setCell ⟨g,k,none⟩ x).setCell ⟨g,k + 1,none⟩ y).setCell ⟨g,k + 2,none⟩ z).setCell ⟨g,k + 3,none⟩ u) :=
 (((((zaf.refl W:zaf (λ k => k=g) W W)).setCell (p:=⟨g,k,none⟩) rfl _).setCell (p:=⟨g,k + 1,none⟩) rfl _).setCell (p:=⟨g,k + 2,none⟩) rfl _).setCell (p:=⟨g,k + 3,none⟩) rfl _
theorem ziw (cap:List Rat) (g:Nat->Rat) (h:∀ i,i < cap.length->cap.getD i 0=g i):cap.map (some:Rat->Qo)=ptL g cap.length:=by
 refine List.ext_getElem? λ i => ?_
 rcases Nat.lt_or_ge i cap.length with hi | hi
 ·rw [zbb hi,List.getElem?_map,gE hi,<- h i hi,List.getD_eq_getElem?_getD,gE hi]; rfl
 ·rw [List.getElem?_eq_none (by rw [List.length_map]; exact hi),List.getElem?_eq_none (by rw [zaN]; exact hi)]
theorem ziq {W:World} {B g n c:Nat} {E:TypeId} {xs:List Value} {l:List Qo} (hE:E ≠ 32) (r:Row W g E xs) (h:zaz W B (.slice (some ⟨g,0,none⟩) n c) l):False:=by
 obtain ⟨xs',h1,_⟩:=h;rcases h1.2 with ⟨e,_⟩ | ⟨g',cap,cur,e,_,hg,_⟩
 ·cases e
 ·simp only [Value.slice.injEq,Option.some.injEq,Addr.mk.injEq] at e;obtain ⟨⟨rfl,_⟩,_⟩:=e;have:=r.symm.trans hg;simp only [Option.some.injEq,Obj.cells.injEq] at this;exact hE this.2.1
theorem zdL (xN xF:Nat) (lR lW lC:List Nat) (aR aW aC:Option Addr) (cR cW cC:Nat) (w:World) (hxN:xN < 256) (hxF:xF < 256) (hlR:lR.length<=9223372036854775807) (hlW:lW.length<=9223372036854775807) (hlC:lC.length<=9223372036854775807) (uR:zaM w aR lR) (uW:zaM w aW lW) (uC:ByU w aC lC) (HR:Hid (zaJ lR)) (HW:Hid (zaJ lW)) (HC:Hid (∀ x∈lC,x < 256)) (hE:Env w) :
  Calls Tryz.prog 3 #[.agg #[.int .u8 (xN:Nat),.slice aR lR.length cR,.slice aW lW.length cW,.int .u8 (xF:Nat),.slice aC lC.length cC]] w λ e w' => e=.returned (.bool true)/\BH w w':=by
 have hbw:=Below.refl w.heap.size w;have hE0:=hE;obtain ⟨n,hn⟩:∃ n,2 + xN % 4=n:=⟨_,rfl⟩;have hn5:2<=n/\n<=5:=by omega
 have HM:=hii (λ w uR uW uC hE => zjS xN xF lR lW lC n (hii hn.symm) aR aW aC cR cW cC w hxN hxF hlR hlW hlC uR uW uC HR HW HC hE);have HWk:=hii (zjz lR lW lC xF (n:=n) ⟨by omega,hn5.2⟩);have HW2:=hii HWk.out.twice;obtain ⟨R,hR⟩:∃ R,zbR lR n=R:=⟨_,rfl⟩;obtain ⟨S,hS⟩:∃ S,wrN R (zbR lW n)=S:=⟨_,rfl⟩;obtain ⟨f,hf⟩:∃ f,fN xF=f:=⟨_,rfl⟩;obtain ⟨cap,hcap⟩:∃ c,zeR lC n=c:=⟨_,rfl⟩;rw [hR,hS,hf,hcap] at HM HWk HW2;have HLc:Hid (cap.length=n):=hii HWk.out.lc;obtain ⟨nlR,hnlR⟩:∃ m,lR.length=m:=⟨_,rfl⟩;obtain ⟨nlW,hnlW⟩:∃ m,lW.length=m:=⟨_,rfl⟩;obtain ⟨nlC,hnlC⟩:∃ m,lC.length=m:=⟨_,rfl⟩;rw [hnlR,hnlW,hnlC] at HM |-;clear hn hR hS hf hcap hnlR hnlW hnlC hlR hlW hlC HR HW HC hxN hxF;go_enter func3,ntmps3;go_upto_region 1 with fail;obtain ⟨w1,g1,hw9,hg9,hb,r1⟩:=bxr w [.int .u8 (xN:Nat),.slice aR nlR cR,.slice aW nlW cW,.int .u8 (xF:Nat),.slice aC nlC cC] 25;rw [<- hw9,<- hg9];have Hg1:Hid (w.heap.size<=g1):=hii (by have:=hbw.size; omega);clear hw9 hg9;have uR:=uR.mono hb;have uW:=uW.mono hb;have uC:=uC.mono hb;have hE:=hE.mono hb;have hbw:=bu hbw hb;clear hb;go_wp2_with fail;go_fit (zhJ w1 hE);rintro e w2 ⟨rfl,hb⟩;have uR:=uR.mono hb;have uW:=uW.mono hb;have uC:=uC.mono hb;have hE:=hE.mono hb;have r1:=r1.below hb;have hbw:=bu hbw hb;clear hb;obtain ⟨c0,c1,c2,c3,c4⟩:=r1.n5;go_wp2_with fail;go_fit (HM.out w2 uR uW uC hE);rintro e w3 ⟨⟨aR1,cR1,aS1,cS1,J1,ao1,n1,Y1,K1,ap1,m1,Z1,aC1,cC1,rfl,hcR1,hcS1,uR1,uS1,hf,hO⟩,hb⟩;have hO:=hO.base hbw.size;have hE:=hE.mono hb;have hbw:=bu hbw hb;clear hb;rw [HLc.out] at hO |-;obtain ⟨nR,hnR⟩:∃ m,R.length=m:=⟨_,rfl⟩;obtain ⟨nS,hnS⟩:∃ m,S.length=m:=⟨_,rfl⟩;have HnR:=hii hnR;have HnS:=hii hnS;rw [hnR] at hcR1 |-;rw [hnS] at hcS1 |-;clear hnR hnS uR uW uC HM;clear c0 c1 c2 c3 c4 r1;go_upto_region 4 with fail;obtain ⟨w4,g3,hw9,hg9,hb,r3⟩:=bxr w3 [.slice aR1 nR cR1,.slice aS1 nS cS1,.bool J1,.slice ao1 n1 Y1,.bool K1,.slice ap1 m1 Z1,.slice aC1 n cC1] 35;rw [<- hw9,<- hg9];have Hg3:Hid (w.heap.size<=g3):=hii (by have:=hbw.size; omega);clear hw9 hg9;have uR1:=uR1.mono hb;have uS1:=uS1.mono hb;have hf:=hf.mono hb;have hO:=hO.mono hb;have hE:=hE.mono hb;have hbw:=bu hbw hb;clear hb;obtain ⟨gC,e,HgC⟩:=zj0 hO (by rw [List.length_map,HLc.out]; omega);subst e;have HgC:=hii HgC;have hUC:=(hO.read).choose_spec.choose_spec;obtain ⟨aU,cU,eU,uC1⟩:=hO.read;simp only [Value.slice.injEq] at eU;obtain ⟨rfl,-,rfl⟩:=eU;clear hUC;have HOp:=hii (zfg R S f cap n HWk aR1 aS1 (some ⟨gC,0,none⟩) cR1 cS1 cC1 w4 uR1 uS1 hf uC1 hE);rw [HnR.out,HnS.out,HLc.out] at HOp;have HOp2:=hii (λ w u1 u2 (u3:zac w (qA J1 ao1 n1 Y1 K1 ap1 m1 Z1) f) u4 u5 => zfg R S f (cap.map (· * 2)) n HW2 aR1 aS1 (some ⟨gC,0,none⟩) cR1 cS1 cC1 w u1 u2 u3 u4 u5);rw [HnR.out,HnS.out,List.length_map,HLc.out] at HOp2;obtain ⟨k0,k1,k2,k3,k4,k5,k6⟩:=r3.n7;go_wp2_with fail;(with_reducible refine HOp.out.mono ?_);rintro e w5 ⟨⟨v,ld,Ps,Qs,rfl,hBV,hBl⟩,hb⟩;have uR1:=uR1.mono hb;have uS1:=uS1.mono hb;have hf:=hf.mono hb;have hO:=hO.mono hb;have hE:=hE.mono hb;have r3:=r3.below hb;have hbw:=bu hbw hb;clear hb;clear HOp k0 k1 k2 k3 k4 k5 k6 uC1;obtain ⟨J2,ao2,n2,Y2,K2,ap2,m2,Z2,aS8,cS8,aQ8,cQ8,rfl,hv2,-⟩:=hBV;have HBl:=hii hBl;clear hBl;obtain ⟨nS8,hnS8⟩:∃ m,(shs (prs R S) Ps).length=m:=⟨_,rfl⟩;obtain ⟨nQ8,hnQ8⟩:∃ m,Qs.length=m:=⟨_,rfl⟩;rw [hnS8,hnQ8];clear hnS8 hnQ8;go_upto_region 5 with fail;obtain ⟨wL,g4,hw9,hg9,hb,r4⟩:=bxr w5 [.bool J2,.slice ao2 n2 Y2,.bool K2,.slice ap2 m2 Z2,.slice aS8 nS8 cS8,.slice aQ8 nQ8 cQ8] 39;rw [<- hw9,<- hg9];have Hg4:Hid (w.heap.size<=g4):=hii (by have:=hbw.size; omega);clear hw9 hg9;have uR1:=uR1.mono hb;have uS1:=uS1.mono hb;have hf:=hf.mono hb;have hv2:=hv2.mono hb;have hO:=hO.mono hb;have hE:=hE.mono hb;have r3:=r3.below hb;have hbw:=bu hbw hb;clear hb;obtain ⟨c,hc⟩:∃ c:Nat->Rat,c=λ i => cap.getD i 0:=⟨_,rfl⟩
 have HMp:Hid ((cap.map (· * 2)).map (some:Rat->Qo)=ptL (λ j => if j < n then c j * 2 else c j) n):=hii (by
  have:=ziw (cap.map (· * 2)) (λ j => if j < n then c j * 2 else c j) (λ i hi => by
   rw [List.length_map,HLc.out] at hi
   show _=if i < n then c i * 2 else c i
   rw [zcD,if_pos hi,hc])
  rw [List.length_map,HLc.out] at this;exact this)
 have hO:zaz wL w.heap.size (.slice (some ⟨gC,0,none⟩) n cC1) (ptL (λ j => if j < 0 then c j * 2 else c j) n):=by
  have:=ziw cap (λ j => if j < 0 then c j * 2 else c j) (λ i hi => by simp [hc]);rw [HLc.out] at this;rw [<- this]; exact hO
 have HKc:Hid (∀ i,i < n->zdH (c i) 2):=hii λ i hi => by
  have hm:c i∈cap:=by
   rw [hc]
   show cap.getD i 0∈cap
   rw [List.getD_eq_getElem?_getD,gE (by rw [HLc.out]; exact hi)];exact List.getElem_mem _
  exact (zca (D:=((12:Nat):Int)) (by decide) (by decide) (HWk.out.wc _ hm) (by decide)).mulS (zbr (K:=2) ⟨2,rfl,by decide⟩ (by decide)) (by decide)
 clear hc;have Hng:=hii (zir hO);have Hg3:Hid (¬ g3=gC):=hii (λ e => by subst e; exact ziq (by decide) r3 hO);have Hg4:Hid (¬ g4=gC):=hii (λ e => by subst e; exact ziq (by decide) r4 hO);have Hk0:=hii (zaf.refl wL:zaf (λ b => b=gC) wL wL);have Hbw:=hii hbw;obtain ⟨k0,k1,k2,k3,k4,k5,k6⟩:=r3.n7;go_wp2_with fail;clear k0 k1 k2 k3 k4 k5 k6;go_loopw [24] (λ s wr => ∃ i:Nat,i<=n/\s=.int .i64 i/\zaz wr w.heap.size (.slice (some ⟨gC,0,none⟩) n cC1) (ptL (λ j => if j < i then c j * 2 else c j) n)/\Hid (zaf (λ b => b=gC) wL wr)) (λ s _ => n - (intOf s).toNat)
 case atStart => exact ⟨0,Nat.zero_le _,rfl,hO,Hk0⟩
 case round =>
  clear hO Hk0;obtain ⟨i,hi,rfl,hO,HkL⟩:=hrel;have hbr:BH w wr:=Hbw.out.trans (HkL.out.below (λ b e => by rw [e]; exact HgC.out) Hbw.out.size)
  by_cases hlt:i < n
  ·have hin:(i:Int) < (n:Int):=by omega
   obtain ⟨J3,ao3,n3,Y3,K3,ap3,m3,Z3,b0,b1,b2,b3,hvc,hfr⟩:=hO.six6 (i:=i) (zbb hlt);have hvc:zac wr (qA J3 ao3 n3 Y3 K3 ap3 m3 Z3) (c i):=by simpa using hvc
   have HM1:=hii (HKc.out i hlt);have hEr:=hE0.mono hbr;have r3k:=r3.mono HkL.out Hg3.out;clear hbr;go_upto_region 8 with fail;clear b0 b1 b2 b3 hfr;have hbw:=Below.refl wr.heap.size wr;obtain ⟨wc,g7,hw9,hg9,hb,r7⟩:=bxr wr [.bool J3,.slice ao3 n3 Y3,.bool K3,.slice ap3 m3 Z3] 32;rw [<- hw9,<- hg9];have Hg7:Hid (wr.heap.size<=g7):=hii (by have:=hbw.size; omega);clear hw9 hg9;have hvc:=hvc.mono hb;have hEr:=hEr.mono hb;have hO:=hO.mono hb;have r3k:=r3k.below hb;have HkL:=hii (HkL.out.trans (.of_below hb));clear hb hbw;have HO:=hii hO;clear hO;refine zaY (G:=(λ b => b=gC)) (wx:=wc) [vf (.pointer (some ⟨g3,6,none⟩)),vf (.slice (some ⟨gC,0,none⟩) n cC1),vf (.int .i64 i),vf (.agg #[.bool J3,.slice ao3 n3 Y3,.bool K3,.slice ap3 m3 Z3]),(λ W v => zac W v (2)),(TU (λ b => b=gC) 0 (c i * 2)),(TU (λ b => b=gC) 0 (c i * 2)),(VU (λ b => b=gC) 0 (c i * 2)),vf (.int .i64 0),vf (.pointer (some ⟨gC,i * 4,none⟩)),(λ _ _ => True)] [some 30,some 31,some 32,some 33,some 34,some 35,some 29,some 36,some 37,some 38,none] [30,31,32,33,34,35,29,36,37,38] [10] [[0],[0],[0],[0],[0],[0],[0],[0],[0,1],[0],[0]] [none,none,none,none,some 0,none,none,none,none,none,none] (λ p T W => match p with | 0 => BH wc W | _ + 1 => zaz W w.heap.size (.slice (some ⟨gC,0,none⟩) n cC1) (ptL (λ j => if j < i + 1 then c j * 2 else c j) n)) (by kernel_rfl) (by kernel_rfl) (by kernel_rfl) (by kernel_rfl) (of_decide_eq_true (by kernel_rfl)) (of_decide_eq_true (by kernel_rfl)) (by kernel_rfl) (by kernel_rfl) (λ T => br.drew) (λ p T W W' h hb => match p,h with | 0,h => bu h hb | _ + 1,h => h.mono hb) (λ p T T' W hT h => match p,hT,h with | 0,_,h => h | _ + 1,_,h => h) (zaf.refl _) ⟨zaa _ _,zaa _ _,zaa _ _,zaa _ _,(λ _ _ _ h hb => h.mono hb),TU.stay,TU.stay,VU.stay,zaa _ _,zaa _ _,(λ _ _ _ h _ => h),trivial⟩ ⟨?s0,?s1,?s2,?s3,?s4,?s5,?s6,?s7,?s8,?s9,?s10,trivial⟩ ?he
   case' s0 | s1 | s2 | s3 | s4 | s5 | s6 | s7 | s8 | s9 | s10 =>
    rintro T W p hb hp hS hA K hK
   case' s0 | s2 =>
    clear hS;simp only [sA] at hK |-
   case' s1 =>
    obtain rfl:p=0:=by simpa using hp
    have hS:BH wc W:=hS;have e0:T 30=_:=hA.1 rfl;obtain ⟨k0,k1,k2,k3,k4,k5,k6⟩:=(r3k.below hS).n7;simp only [sA,e0] at hK |-
   case' s3 =>
    obtain rfl:p=0:=by simpa using hp
    have hS:BH wc W:=hS;obtain ⟨k0,k1,k2,k3⟩:=(r7.below hS).n4;simp only [sA] at hK |-
   case' s8 =>
    clear hS;have r6:(_:World->Value->Prop) W (T 29):=hA.1 rfl;obtain ⟨J9,ao9,n9,Y9,K9,ap9,m9,Z9,e6,h6⟩:=r6;simp only [sA,e6] at hK |-
   case' s9 =>
    obtain rfl:p=0:=by simpa using hp
    clear hS;have e1:T 31=_:=hA.1 rfl;have e2:T 32=_:=hA.2.1 rfl;simp only [sA,e1,e2] at hK |-
   case s0 | s1 | s2 | s3 | s8 | s9 =>
    have HK:=hii hK;clear hK hA;refine wO rfl (by rfl) ?_;go_simp;exact HK.out _ _ ⟨λ _ => br,λ h => absurd h (zap (by decide) (by decide))⟩ (rfl)
   case s4 =>
    obtain rfl:p=0:=by simpa using hp
    have hS:BH wc W:=hS;simp only [sA] at hK |-;have HK:=hii hK;clear hK hA;refine wO rfl (by rfl) ?_;go_simp;go_fit (zbo 2 1 W (by decide) (by decide) (by decide) (by decide) (hii (by decide)) (hEr.mono hS));rintro e w2 ⟨hz,hb1⟩;obtain ⟨J5,ao5,n5,Y5,K5,ap5,m5,Z5,rfl,hV5⟩:=hz.rat;have hV5:zac w2 (qA J5 ao5 n5 Y5 K5 ap5 m5 Z5) 2:=hV5
    try dsimp only
    exact HK.out _ _ ⟨λ _ => hb1,λ h => absurd h (zap (by decide) (by decide))⟩ (hV5)
   case s5 =>
    obtain rfl:p=0:=by simpa using hp
    have hS:BH wc W:=hS;have e3:T 33=_:=hA.1 rfl;have r4:(_:World->Value->Prop) W (T 34):=hA.2.1 (by decide);have r4:zac W _ 2:=r4;obtain ⟨J8,ao8,n8,Y8,K8,ap8,m8,Z8,e4⟩:=r4.parts;rw [e4] at r4;simp only [sA,e3,e4] at hK |-;have HK:=hii hK;clear hK hA;refine wO rfl (by rfl) ?_;go_simp;go_fit (zkH _ _ (c i) 2 W (hvc.mono hS) r4 HM1 (hEr.mono hS));rintro e w2 ⟨hz,hb1⟩;obtain ⟨J5,ao5,n5,Y5,K5,ap5,m5,Z5,rfl,hV5⟩:=hz.rat;have hn3:NoU (λ b => b=gC) w2:=(zir (HO.out.mono (bu hS hb1))).u
    try dsimp only
    exact HK.out _ _ ⟨λ _ => hb1,λ h => absurd h (zap (by decide) (by decide))⟩ (⟨_,_,_,_,_,_,_,_,rfl,λ _ => hV5.ru hn3⟩)
   case s6 =>
    clear hS;have r5:((TU (λ b => b=gC) 0 (c i * 2)):World->Value->Prop) W (T 35):=hA.1 rfl;simp only [sA] at hK |-;have HK:=hii hK;clear hK hA;refine wO rfl (by rfl) ?_;go_simp;exact HK.out _ _ ⟨λ _ => br,λ h => absurd h (zap (by decide) (by decide))⟩ (r5)
   case s7 =>
    clear hS;have r6:(_:World->Value->Prop) W (T 29):=hA.1 rfl;obtain ⟨J9,ao9,n9,Y9,K9,ap9,m9,Z9,e6,h6⟩:=r6;simp only [sA,e6] at hK |-;have HK:=hii hK;clear hK hA;refine wO rfl (by rfl) ?_;go_simp;exact HK.out _ _ ⟨λ _ => br,λ h => absurd h (zap (by decide) (by decide))⟩ (⟨_,_,_,_,_,_,_,_,rfl,h6⟩)
   case s10 =>
    obtain rfl:p=0:=by simpa using hp
    have hS:BH wc W:=hS;have e9:T 38=_:=hA.1 rfl;have r7:(_:World->Value->Prop) W (T 36):=hA.2.1 rfl;obtain ⟨J9,ao9,n9,Y9,K9,ap9,m9,Z9,e7,h7a⟩:=r7;have h7:=(h7a rfl).rat;have hOW:=HO.out.mono hS;obtain ⟨J6,ao6,n6,Y6,K6,ap6,m6,Z6,b0,b1,b2,b3,-,hfr⟩:=hOW.six6 (i:=i) (zbb hlt);have f0:=hfr (i * 4);have f1:=hfr (i * 4 + 1);have f2:=hfr (i * 4 + 2);have f3:=hfr (i * 4 + 3);have hput:=(hOW.put (i:=i) (o:=some (c i * 2)) (by rw [zaN]; exact hlt) h7).1;rw [zes (g:=λ j => if j < i + 1 then c j * 2 else c j) hlt (by simp) (λ q hq hne => by
     by_cases h1:q < i
     ·simp [h1,show q < i + 1 by omega]
     ·simp [h1,show ¬ q < i + 1 by omega])] at hput
    have Hput:=hii hput;clear hput hfr hOW;simp only [sA,e9,e7] at hK |-;have HK:=hii hK;clear hK hA;refine wO rfl (by rfl) ?_;go_simp;exact HK.out undef _ ⟨λ h => absurd rfl h,λ _ => ⟨Hput.out,zmQ⟩⟩ (trivial)
   case he =>
    rintro T W hb hS hA;have hS:zaz W w.heap.size (.slice (some ⟨gC,0,none⟩) n cC1) (ptL (λ j => if j < i + 1 then c j * 2 else c j) n):=hS;simp only [sA];have HkL:=hii (HkL.out.trans hb);clear hA hb;go_wp2;go_roundw
    case rel => exact ⟨i + 1,by omega,by go_num,hS,HkL⟩
    case measure => simp [intOf]; omega
  ·have hin:¬ (i:Int) < (n:Int):=by omega
   obtain rfl:i=n:=by omega
   rw [<- HMp.out] at hO;obtain ⟨aU,cU,eU,uC2⟩:=hO.read;simp only [Value.slice.injEq] at eU;obtain ⟨rfl,-,rfl⟩:=eU;have hEr:=hE0.mono hbr;have r3k:=r3.mono HkL.out Hg3.out;have r4k:=r4.mono HkL.out Hg4.out;have hv2k:=hv2.kept HkL.out Hng.out;have uR2:=uR1.kept HkL.out Hng.out;have uS2:=uS1.kept HkL.out Hng.out;have hf2:=hf.kept HkL.out Hng.out;have HO2:=hii (HOp2.out wr uR2 uS2 hf2 uC2 hEr);have hbw:=hbr;obtain ⟨k0,k1,k2,k3,k4,k5,k6⟩:=r3k.n7;clear hO uC2 uR2 uS2 hf2 hbr r3 r4 hv2 uR1 uS1 hf hE HkL r3k hlt;go_wp2_with fail;(with_reducible refine HO2.out.mono ?_);rintro e wA ⟨⟨v,ld2,Ps2,Qs2,rfl,hBV,hBl2⟩,hb⟩;have hEr:=hEr.mono hb;have hv2k:=hv2k.mono hb;have r4k:=r4k.below hb;have hbw:=bu hbw hb;clear hb;clear HO2 k0 k1 k2 k3 k4 k5 k6;obtain ⟨J5,ao5,n5,Y5,K5,ap5,m5,Z5,aS9,cS9,aQ9,cQ9,rfl,hv5,-⟩:=hBV;have HEq:Hid (ld2 * 2=ld):=hii (HBl.out.half hBl2 rfl).symm;have HM2:Hid (zdH ld2 2):=hii (by
    obtain ⟨z,hz,hzM,hw,-,-⟩:=hBl2.den;exact ((HW2.out.dn hz hzM).kb hw).mulS (zbr (K:=2) ⟨2,rfl,by decide⟩ (by decide)) (by decide))
   clear hBl2 HBl;obtain ⟨nS9,hnS9⟩:∃ m,(shs (prs R S) Ps2).length=m:=⟨_,rfl⟩;obtain ⟨nQ9,hnQ9⟩:∃ m,Qs2.length=m:=⟨_,rfl⟩;rw [hnS9,hnQ9];clear hnS9 hnQ9;go_upto_region 11 with fail;obtain ⟨wB,g8,hw9,hg9,hb,r8⟩:=bxr wA [.bool J5,.slice ao5 n5 Y5,.bool K5,.slice ap5 m5 Z5,.slice aS9 nS9 cS9,.slice aQ9 nQ9 cQ9] 39;rw [<- hw9,<- hg9];have Hg8:Hid (w.heap.size<=g8):=hii (by have:=hbw.size; omega);clear hw9 hg9;have hEr:=hEr.mono hb;have hv2k:=hv2k.mono hb;have hv5:=hv5.mono hb;have r4k:=r4k.below hb;have hbw:=bu hbw hb;clear hb;obtain ⟨wC,rfl⟩:=exi wB;refine zaq (wx:=wC) (λ _ => False) [(λ _ X _ => X 0=.pointer (some ⟨g8,0,none⟩)),(λ _ X _ => X 1=.agg #[.bool J5,.slice ao5 n5 Y5,.bool K5,.slice ap5 m5 Z5]),(λ G X W => ((FQ 2):(Nat->Prop)->World->Value->Prop) G W (X 2)),(λ G X W => ((λ _ W v => ∃ a,v=.tuple #[a,.int .i64 0]/\zac W a (ld2 * 2)):(Nat->Prop)->World->Value->Prop) G W (X 3)),(λ G X W => ((λ _ W v => ∃ a,v=.tuple #[a,.int .i64 0]/\zac W a (ld2 * 2)):(Nat->Prop)->World->Value->Prop) G W (X 4)),(λ G X W => ((FQ (ld2 * 2)):(Nat->Prop)->World->Value->Prop) G W (X 5)),(λ _ X _ => X 6=.int .i64 0),(λ _ _ _ => True),(λ _ _ _ => True),(λ _ X _ => X 9=.int .i64 0)] [some 46,some 47,some 48,some 49,some 45,some 50,some 51,some 10,none,some 11] [none,none,none,none,none,none,none,some ⟨8,5,32,[.bool false,.slice none 0 0,.bool false,.slice none 0 0]⟩,none,none] [46,47,48,49,45,50,51,10,11] (by kernel_rfl) (by kernel_rfl) (by kernel_rfl) (by kernel_rfl) (of_decide_eq_true (by kernel_rfl)) (by kernel_rfl) ⟨(by intro u hu k z e; subst e; simp at hu),trivial⟩ (λ b h => h) br ⟨zab _ _ _,zab _ _ _,za7 _,(zaw (F:=λ _ W v => ∃ a,v=.tuple #[a,.int .i64 0]/\zac W a (ld2 * 2)) λ G G' W W' v ⟨a,e,h⟩ hk hn hG => ⟨a,e,h.kept hk hn⟩),(zaw (F:=λ _ W v => ∃ a,v=.tuple #[a,.int .i64 0]/\zac W a (ld2 * 2)) λ G G' W W' v ⟨a,e,h⟩ hk hn hG => ⟨a,e,h.kept hk hn⟩),za7 _,zab _ _ _,zao _,zao _,zab _ _ _,trivial⟩ ⟨⟨λ _ _ _ => trivial,λ _ _ _ => trivial⟩,trivial⟩ ⟨?s0,?s1,?s2,?s3,?s4,?s5,?s6,?s7,?s8,?s9,trivial⟩ ⟨?b7,trivial⟩ ?he
   case' s0 | s1 | s2 | s3 | s4 | s5 | s6 =>
    rintro - G T W hb hHG hGW hGo hNG hA K hK
   case' s0 =>
    simp only [sA] at hK |-
   case' s1 =>
    have e0:T 46=_:=hA.1;obtain ⟨k0,k1,k2,k3,k4,k5⟩:=(r8.below hb).n6;simp only [sA,e0] at hK |-
   case' s6 =>
    have r4:((λ _ W v => ∃ a,v=.tuple #[a,.int .i64 0]/\zac W a (ld2 * 2)):(Nat->Prop)->World->Value->Prop) G W (T 45):=hA.1;obtain ⟨a6,e4,h6⟩:=r4;simp only [sA,e4] at hK |-
   case s0 | s1 | s6 =>
    have HK:=hii hK;clear hK hA;refine wO rfl (by rfl) ?_;go_simp;exact HK.out _ _ br λ X hX _ => hX
   case s2 =>
    simp only [sA] at hK |-;have HK:=hii hK;clear hK hA;refine wO rfl (by rfl) ?_;go_simp;go_fit (zbo 2 1 W (by decide) (by decide) (by decide) (by decide) (hii (by decide)) (hEr.mono hb));rintro e w1 ⟨hz,hb1⟩;obtain ⟨J7,ao7,n7,Y7,K7,ap7,m7,Z7,rfl,hV7⟩:=hz.rat;have hV7:zac w1 (qA J7 ao7 n7 Y7 K7 ap7 m7 Z7) 2:=hV7
    try dsimp only
    exact HK.out _ _ (hb1) λ X hX _ => by
     show ((FQ 2):(Nat->Prop)->World->Value->Prop) G _ (X 2)
     rw [hX];exact hV7
   case s3 =>
    have e1:T 47=_:=hA.1;have r2:((FQ 2):(Nat->Prop)->World->Value->Prop) G W (T 48):=hA.2.1;have r2:zac W _ 2:=r2;obtain ⟨J8,ao8,n8,Y8,K8,ap8,m8,Z8,e2⟩:=r2.parts;rw [e2] at r2;simp only [sA,e1,e2] at hK |-;have HK:=hii hK;clear hK hA;refine wO rfl (by rfl) ?_;go_simp;go_fit (zkH _ _ ld2 2 W (hv5.mono hb) r2 HM2 (hEr.mono hb));rintro e w1 ⟨hz,hb1⟩;obtain ⟨J7,ao7,n7,Y7,K7,ap7,m7,Z7,rfl,hV7⟩:=hz.rat
    try dsimp only
    exact HK.out _ _ (hb1) λ X hX _ => by
     show ((λ _ W v => ∃ a,v=.tuple #[a,.int .i64 0]/\zac W a (ld2 * 2)):(Nat->Prop)->World->Value->Prop) G _ (X 3)
     rw [hX];exact ⟨_,rfl,hV7⟩
   case s4 =>
    have r3:((λ _ W v => ∃ a,v=.tuple #[a,.int .i64 0]/\zac W a (ld2 * 2)):(Nat->Prop)->World->Value->Prop) G W (T 49):=hA.1;obtain ⟨a6,e3,h6⟩:=r3;simp only [sA,e3] at hK |-;have HK:=hii hK;clear hK hA;refine wO rfl (by rfl) ?_;go_simp;exact HK.out _ _ br λ X hX _ => by
     show ((λ _ W v => ∃ a,v=.tuple #[a,.int .i64 0]/\zac W a (ld2 * 2)):(Nat->Prop)->World->Value->Prop) G _ (X 4)
     rw [hX];exact ⟨_,rfl,h6⟩
   case s5 =>
    have r4:((λ _ W v => ∃ a,v=.tuple #[a,.int .i64 0]/\zac W a (ld2 * 2)):(Nat->Prop)->World->Value->Prop) G W (T 45):=hA.1;obtain ⟨a6,e4,h6⟩:=r4;simp only [sA,e4] at hK |-;have HK:=hii hK;clear hK hA;refine wO rfl (by rfl) ?_;go_simp;exact HK.out _ _ br λ X hX _ => by
     show ((FQ (ld2 * 2)):(Nat->Prop)->World->Value->Prop) G _ (X 5)
     rw [hX];exact h6
   case s7 => exact λ h => absurd h (by decide)
   case s8 => exact λ h => absurd h (by decide)
   case s9 =>
    rintro - G T W hb hHG hGW hGo hNG hA K hK;have e6:T 51=_:=hA.1;simp only [sA,e6] at hK |-;have HK:=hii hK;clear hK hA;refine wO rfl (by rfl) ?_;go_simp;exact HK.out _ _ br λ X hX _ => hX
   case b7 =>
    refine ⟨?_,?_⟩
    ·rintro o ho T W K hK;obtain rfl:=Option.some.inj ho;simp only [sA] at hK |-;have HK:=hii hK;clear hK ho;refine wO rfl (by rfl) ?_;go_simp;exact HK.out
    ·rintro o ho G T W nb hA hp hrow K hK;obtain rfl:=Option.some.inj ho;have ep:T 10=.pointer (some ⟨nb,0,none⟩):=hp;have r5:((FQ (ld2 * 2)):(Nat->Prop)->World->Value->Prop) G W (T 50):=hA.2.1;have r5:zac W _ (ld2 * 2):=r5;obtain ⟨J8,ao8,n8,Y8,K8,ap8,m8,Z8,e5⟩:=r5.parts;have hK:=hK [.bool J8,.slice ao8 n8 Y8,.bool K8,.slice ap8 m8 Z8] (.inl e5) rfl (by intro u hu k z e; subst e; simp at hu);simp only [sA,ep,e5] at hK |-;have HK:=hii hK;clear hK hA ho;have q0:=hrow.cell (k:=0) (by simp);have f0:=hrow.free 0;have q1:=hrow.cell (k:=1) (by simp);have f1:=hrow.free 1;have q2:=hrow.cell (k:=2) (by simp);have f2:=hrow.free 2;have q3:=hrow.cell (k:=3) (by simp);have f3:=hrow.free 3;simp only [List.getElem_cons_zero,List.getElem_cons_succ] at q0 q1 q2 q3;refine wO rfl (by rfl) ?_;go_simp;exact HK.out
   case he =>
    rintro GG N T W hb hHG hGW hGo hbox hNG hne hA;have fv:((FQ (ld2 * 2)):(Nat->Prop)->World->Value->Prop) GG W (T 50):=hA.at 5 (by decide);have f9:T 11=.int .i64 0:=hA.at 9 (by decide);obtain ⟨ep,_,hge,vs,hsto,hrow⟩:=hbox 7 _ rfl;have ep:T 10=.pointer (some ⟨N 7,0,none⟩):=ep;have fv:zac W _ (ld2 * 2):=fv;obtain ⟨J6,ao6,n6,Y6,K6,ap6,m6,Z6,e5⟩:=fv.parts;obtain rfl:=hsto.four e5;rw [e5] at fv;simp only [sA,ep,f9];obtain ⟨g10,hg⟩:∃ g,g=N 7:=⟨_,rfl⟩;rw [<- hg] at hrow hge |-;have Hg10:=hii hge;clear hA hbox hNG hne hHG hGW hGo ep f9 hsto hge e5 hg;have hEr:=hEr.mono hb;have hv2k:=hv2k.mono hb;have r4k:=r4k.below hb;have hbw:=bu hbw hb;clear hb;rw [HEq.out] at fv;obtain ⟨wD,rfl⟩:=exi W;have r10:Row wD g10 32 [.bool J6,.slice ao6 n6 Y6,.bool K6,.slice ap6 m6 Z6]:=hrow;clear hrow r8 hv5;obtain ⟨y0,y1,y2,y3,y4,y5⟩:=r4k.n6;obtain ⟨k0,k1,k2,k3⟩:=r10.n4;have HQ:=hii (zgH hv2k fv hEr);go_wp2_with fail;(with_reducible refine HQ.out.mono ?_);rintro e wE ⟨rfl,hb⟩;have hbw:=bu hbw hb;clear hb HQ;go_wp2;go_ret;exact ⟨rfl,hbw⟩
end Go.Proofs.YtfgffkmddanjjaaGreatDoor
