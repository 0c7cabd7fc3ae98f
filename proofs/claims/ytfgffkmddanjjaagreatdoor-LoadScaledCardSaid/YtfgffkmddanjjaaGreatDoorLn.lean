/-
  load: the load of a strategy.
-/
import Derived.Test.YtfgffkmddanjjaaGreatDoorLm
set_option linter.unusedVariables false
set_option linter.unusedSimpArgs false
set_option maxRecDepth 100000
set_option maxHeartbeats 25600000
namespace Go.Proofs.YtfgffkmddanjjaaGreatDoor
open _root_.Go.Proofs.Tryz
open Go.RowKit
theorem zg3 (a b:Rat):decide (0 < Rq.cmpQ a b)=decide (b < a):=by
 unfold Rq.cmpQ
 split
 ·next h => simp; exact Rat.not_lt.2 (Rat.le_of_lt h)
 ·next h =>
  split
  ·next h2 => simp [h2]
  ·next h2 => simp; exact h2
def OfS (f:Rat) (cap:List Rat) (sh:List ((Nat × Nat) × Rat)):Prop:=∀ i,i < cap.length->(∀ (j:Nat) (s:(Nat × Nat) × Rat),sh[j]?=some s->zdH s.2 (wt f s.1 i)/\zeb (tS f (sh.take j) i) (s.2 * wt f s.1 i))/\zk0 (tS f sh i) (cap.getD i 0)/\CrS (tS f sh i / cap.getD i 0) (mxS f cap sh i)
def zcT (R S:List Nat) (s:(Nat × Nat) × Qo):Bool:=!(R.any λ y => decide (y=s.1.1)) || !(S.any λ y => decide (y=s.1.2))
def OfR (R S:List Nat) (f:Rat) (cap:List Rat) (L:List ((Nat × Nat) × Qo)) (w':World) (e:Ending):Prop :=
 (L.any (zcT R S)=true/\NoQ 1 e)\/(L.any (zcT R S)=false/\zbn (L.map (·.2)) ≠ 0/\NoQ (zbn (L.map (·.2)):Nat) e) \/
 (L.any (zcT R S)=false/\zbn (L.map (·.2))=0/\∃ sh,L=shQ sh/\zcL w' (mxS f cap sh cap.length) e)
theorem zk7 {f:Rat} {sh:List ((Nat × Nat) × Rat)} {j i:Nat} {s:(Nat × Nat) × Rat} (h:sh[j]?=some s):tS f (sh.take (j + 1)) i=tS f (sh.take j) i + s.2 * wt f s.1 i:=by
 unfold tS;rw [zaH h,List.map_append];exact zb1 _ _
theorem zcL.mk {w:World} {J1:Bool} {ao1:Option Addr} {n1 Y1:Nat} {K1:Bool} {ap1:Option Addr} {m1 Z1:Nat} {r:Rat} (h:zac w (qA J1 ao1 n1 Y1 K1 ap1 m1 Z1) r):zcL w r (.returned (.tuple #[.agg #[.bool J1,.slice ao1 n1 Y1,.bool K1,.slice ap1 m1 Z1],.int .i64 0])):=by
 obtain ⟨_,_,_,_,_,_,_,_,e,h1,h2⟩:=h
 cases e
 exact ⟨_,_,_,_,_,_,_,_,rfl,hii h1,hii h2⟩
theorem zmI (R S:List Nat) (f:Rat) (cap:List Rat) (g gp:Nat) (s:(Nat × Nat) × Qo) {J1:Bool} {ao1:Option Addr} {n1 Y1:Nat} {K1:Bool} {ap1:Option Addr} {m1 Z1:Nat} (w:World) (hR:R.length<=1000000) (hS:S.length<=1000000) (rp:Row w gp 93 [.pointer (some ⟨g,0,none⟩)]) (hW:zdz w g R S f cap) :
  Calls Tryz.prog 105 #[.agg #[.int .u16 (s.1.1:Nat),.int .u16 (s.1.2:Nat),.bool J1,.slice ao1 n1 Y1,.bool K1,.slice ap1 m1 Z1],.pointer (some ⟨gp,0,none⟩)] w λ e w' => e=.returned (.bool (zcT R S s))/\BH w w':=by
 have hbw:=Below.refl w.heap.size w;obtain ⟨bR,hbR⟩:∃ b,(R.any λ y => decide (y=s.1.1))=b:=⟨_,rfl⟩;obtain ⟨bS,hbS⟩:∃ b,(S.any λ y => decide (y=s.1.2))=b:=⟨_,rfl⟩;obtain ⟨z,hz⟩:∃ z,zcT R S s=z:=⟨_,rfl⟩;have HZ:Hid (z=(!bR || !bS)):=hii (by rw [<- hz]; unfold zcT; rw [hbR,hbS]);rw [hz];clear hz;go_enter func105,ntmps105;go_upto_region 1 with fail;obtain ⟨w1,g2,hw9,hg9,hb,r2⟩:=bxr w [.int .u16 (s.1.1:Nat),.int .u16 (s.1.2:Nat),.bool J1,.slice ao1 n1 Y1,.bool K1,.slice ap1 m1 Z1] 59;rw [<- hw9,<- hg9];have Hg2:Hid (w.heap.size<=g2):=hii (by have:=hbw.size; omega);clear hw9 hg9;have hW:=hW.mono hb;have rp:=rp.below hb;have hbw:=bu hbw hb;clear hb;obtain ⟨aR,cR,aS,cS,J3,ao3,n3,Y3,K3,ap3,m3,Z3,J4,ao4,n4,Y4,K4,ap4,m4,Z4,aC,cC,rW,uR,uS,-⟩:=hW;have HCR:Hid (∀ W,BH w1 W->Calls Tryz.prog 106 #[.slice aR R.length cR,.int .u16 (s.1.1:Nat)] W λ e w' => e=.returned (.bool bR)/\BH W w'):=hii λ W hb => by
  have h:=zcl R s.1.1 aR cR W hR (uR.mono hb);rw [hbR] at h; exact h
 have HCS:Hid (∀ W,BH w1 W->Calls Tryz.prog 106 #[.slice aS S.length cS,.int .u16 (s.1.2:Nat)] W λ e w' => e=.returned (.bool bS)/\BH W w'):=hii λ W hb => by
  have h:=zcl S s.1.2 aS cS W hS (uS.mono hb);rw [hbS] at h; exact h
 clear uR uS hbR hbS
 cases bR
 ·have HZ:Hid (z=true):=hii (by rw [HZ.out]; rfl);refine zae (wx:=w1) [vf (.pointer (some ⟨g,0,none⟩)),vf (.pointer (some ⟨g,0,none⟩)),vf (.pointer (some ⟨g,0,none⟩)),vf (.slice aR R.length cR),vf (.pointer (some ⟨g2,0,none⟩)),vf (.int .u16 (s.1.1:Nat)),vf (.bool false),vf (.bool true),vf (.bool true),vf undef,vf undef,vf undef,vf undef,vf undef,vf undef,vf undef,vf undef,vf (.bool true),vf (.bool true)] [4,5,6,7,8,9,10,11,12,13,14,15,16,17,18,19,20,21,3] (by kernel_rfl) (by kernel_rfl) (by kernel_rfl) (of_decide_eq_true (by kernel_rfl)) br ⟨sV _,sV _,sV _,sV _,sV _,sV _,sV _,sV _,sV _,sV _,sV _,sV _,sV _,sV _,sV _,sV _,sV _,sV _,sV _,trivial⟩ ⟨?s0,?s1,?s2,?s3,?s4,?s5,?s6,?s7,?s8,?s9,?s10,?s11,?s12,?s13,?s14,?s15,?s16,?s17,?s18,trivial⟩ ?he
  case' s0 | s1 | s2 | s3 | s4 | s5 | s6 | s7 | s8 | s9 | s10 | s11 | s12 | s13 | s14 | s15 | s16 | s17 | s18 =>
   rintro T W hb hA K hK
  case' s0 =>
   simp only [sA] at hK |-;have HK:=hii hK;clear hK hA;have d0:=(rp.below hb).cell (k:=0) (by simp);simp only [List.getElem_cons_zero] at d0
  case' s3 =>
   have e2:T 6=_:=hA.1;simp only [sA,e2] at hK |-;have HK:=hii hK;clear hK hA;obtain ⟨k0,k1,-⟩:=(rW.below hb).n11
  case' s5 =>
   have e4:T 8=_:=hA.1;simp only [sA,e4] at hK |-;have HK:=hii hK;clear hK hA;obtain ⟨h0,h1,-,-,-,-⟩:=(r2.below hb).n6
  case' s1 =>
   have e0:T 4=_:=hA.1;simp only [sA,e0] at hK |-
  case' s2 =>
   have e1:T 5=_:=hA.1;simp only [sA,e1] at hK |-
  case' s4 =>
   simp only [sA] at hK |-
  case' s7 =>
   have e6:T 10=_:=hA.1;simp only [sA,e6] at hK |-
  case' s8 =>
   have e7:T 11=_:=hA.1;simp only [sA,e7] at hK |-
  case' s17 =>
   have e8:T 12=_:=hA.1;have e16:T 20=_:=hA.2.1;simp only [sA,e8,e16] at hK |-
  case' s18 =>
   have e17:T 21=_:=hA.1;simp only [sA,e17] at hK |-
  case' s9 | s13 =>
   have e8:T 12=_:=hA.1;simp only [sA,e8] at hK |-
  case' s10 =>
   have e9:T 13=_:=hA.1;have e8:T 12=_:=hA.2.1;simp only [sA,e9,e8] at hK |-
  case' s11 =>
   have e10:T 14=_:=hA.1;have e8:T 12=_:=hA.2.1;simp only [sA,e10,e8] at hK |-
  case' s12 =>
   have e11:T 15=_:=hA.1;have e8:T 12=_:=hA.2.1;simp only [sA,e11,e8] at hK |-
  case' s14 =>
   have e13:T 17=_:=hA.1;have e8:T 12=_:=hA.2.1;simp only [sA,e13,e8] at hK |-
  case' s15 =>
   have e12:T 16=_:=hA.1;have e14:T 18=_:=hA.2.1;have e8:T 12=_:=hA.2.2.1;simp only [sA,e12,e14,e8] at hK |-
  case' s16 =>
   have e15:T 19=_:=hA.1;have e8:T 12=_:=hA.2.1;simp only [sA,e15,e8] at hK |-
  case s0 | s3 | s5 =>
   refine wO rfl (by rfl) ?_;go_simp;exact HK.out _ _ br (rfl)
  case s1 | s2 | s4 | s7 | s8 | s17 | s18 =>
   have HK:=hii hK;clear hK hA;refine wO rfl (by rfl) ?_;go_simp;exact HK.out _ _ br (rfl)
  case s9 | s10 | s11 | s12 | s13 | s14 | s15 | s16 =>
   have HK:=hii hK;clear hK hA;refine zax rfl (by rfl) ?_;simp only [Act.put,List.setIfInBounds_toArray];exact HK.out _ _ br (rfl)
  case s6 =>
   have e3:T 7=_:=hA.1;have e5:T 9=_:=hA.2.1;simp only [sA,e3,e5] at hK |-;have HK:=hii hK;clear hK hA;refine wO rfl (by rfl) ?_;go_simp;go_fit (HCR.out W hb);rintro e w1 ⟨rfl,hb1⟩
   try dsimp only
   exact HK.out _ _ hb1 (rfl)
  case he =>
   rintro T W hb hA;have f18:T 3=.bool true:=hA.at 18 (by decide);simp only [sA,f18];have hbw:=bu hbw hb;clear hA f18;go_wp2;go_ret;exact ⟨by rw [HZ.out]; rfl,hbw⟩
 ·have HZ:Hid (z=!bS):=hii (by rw [HZ.out]; rfl);refine zae (wx:=w1) [vf (.pointer (some ⟨g,0,none⟩)),vf (.pointer (some ⟨g,0,none⟩)),vf (.pointer (some ⟨g,0,none⟩)),vf (.slice aR R.length cR),vf (.pointer (some ⟨g2,0,none⟩)),vf (.int .u16 (s.1.1:Nat)),vf (.bool true),vf (.bool false),vf (.bool false),vf (.pointer (some ⟨g,0,none⟩)),vf (.pointer (some ⟨g,0,none⟩)),vf (.pointer (some ⟨g,1,none⟩)),vf (.slice aS S.length cS),vf (.pointer (some ⟨g2,1,none⟩)),vf (.int .u16 (s.1.2:Nat)),vf (.bool bS),vf (.bool (!bS)),vf (.bool (!bS)),vf (.bool (!bS))] [4,5,6,7,8,9,10,11,12,13,14,15,16,17,18,19,20,21,3] (by kernel_rfl) (by kernel_rfl) (by kernel_rfl) (of_decide_eq_true (by kernel_rfl)) br ⟨sV _,sV _,sV _,sV _,sV _,sV _,sV _,sV _,sV _,sV _,sV _,sV _,sV _,sV _,sV _,sV _,sV _,sV _,sV _,trivial⟩ ⟨?s0,?s1,?s2,?s3,?s4,?s5,?s6,?s7,?s8,?s9,?s10,?s11,?s12,?s13,?s14,?s15,?s16,?s17,?s18,trivial⟩ ?he
  case' s0 | s1 | s2 | s3 | s4 | s5 | s6 | s7 | s8 | s9 | s10 | s11 | s12 | s13 | s14 | s15 | s16 | s17 | s18 =>
   rintro T W hb hA K hK
  case' s0 =>
   simp only [sA] at hK |-;have HK:=hii hK;clear hK hA;have d0:=(rp.below hb).cell (k:=0) (by simp);simp only [List.getElem_cons_zero] at d0
  case' s3 =>
   have e2:T 6=_:=hA.1;simp only [sA,e2] at hK |-;have HK:=hii hK;clear hK hA;obtain ⟨k0,k1,-⟩:=(rW.below hb).n11
  case' s5 =>
   have e4:T 8=_:=hA.1;simp only [sA,e4] at hK |-;have HK:=hii hK;clear hK hA;obtain ⟨h0,h1,-,-,-,-⟩:=(r2.below hb).n6
  case' s9 =>
   have e8:T 12=_:=hA.1;simp only [sA,e8] at hK |-;have HK:=hii hK;clear hK hA;have d0:=(rp.below hb).cell (k:=0) (by simp);simp only [List.getElem_cons_zero] at d0
  case' s12 =>
   have e11:T 15=_:=hA.1;have e8:T 12=_:=hA.2.1;simp only [sA,e11,e8] at hK |-;have HK:=hii hK;clear hK hA;obtain ⟨k0,k1,-⟩:=(rW.below hb).n11
  case' s14 =>
   have e13:T 17=_:=hA.1;have e8:T 12=_:=hA.2.1;simp only [sA,e13,e8] at hK |-;have HK:=hii hK;clear hK hA;obtain ⟨h0,h1,-,-,-,-⟩:=(r2.below hb).n6
  case' s1 =>
   have e0:T 4=_:=hA.1;simp only [sA,e0] at hK |-
  case' s2 =>
   have e1:T 5=_:=hA.1;simp only [sA,e1] at hK |-
  case' s4 =>
   simp only [sA] at hK |-
  case' s7 =>
   have e6:T 10=_:=hA.1;simp only [sA,e6] at hK |-
  case' s8 =>
   have e7:T 11=_:=hA.1;simp only [sA,e7] at hK |-
  case' s10 =>
   have e9:T 13=_:=hA.1;have e8:T 12=_:=hA.2.1;simp only [sA,e9,e8] at hK |-
  case' s11 =>
   have e10:T 14=_:=hA.1;have e8:T 12=_:=hA.2.1;simp only [sA,e10,e8] at hK |-
  case' s13 =>
   have e8:T 12=_:=hA.1;simp only [sA,e8] at hK |-
  case' s16 =>
   have e15:T 19=_:=hA.1;have e8:T 12=_:=hA.2.1;simp only [sA,e15,e8] at hK |-
  case' s17 =>
   have e8:T 12=_:=hA.1;have e16:T 20=_:=hA.2.1;simp only [sA,e8,e16] at hK |-
  case' s18 =>
   have e17:T 21=_:=hA.1;simp only [sA,e17] at hK |-
  case s0 | s3 | s5 | s9 | s12 | s14 =>
   refine wO rfl (by rfl) ?_;go_simp;exact HK.out _ _ br (rfl)
  case s1 | s2 | s4 | s7 | s8 | s10 | s11 | s13 | s16 | s17 | s18 =>
   have HK:=hii hK;clear hK hA;refine wO rfl (by rfl) ?_;go_simp;exact HK.out _ _ br (rfl)
  case s6 =>
   have e3:T 7=_:=hA.1;have e5:T 9=_:=hA.2.1;simp only [sA,e3,e5] at hK |-;have HK:=hii hK;clear hK hA;refine wO rfl (by rfl) ?_;go_simp;go_fit (HCR.out W hb);rintro e w1 ⟨rfl,hb1⟩
   try dsimp only
   exact HK.out _ _ hb1 (rfl)
  case s15 =>
   have e12:T 16=_:=hA.1;have e14:T 18=_:=hA.2.1;have e8:T 12=_:=hA.2.2.1;simp only [sA,e12,e14,e8] at hK |-;have HK:=hii hK;clear hK hA;refine wO rfl (by rfl) ?_;go_simp;go_fit (HCS.out W hb);rintro e w1 ⟨rfl,hb1⟩
   try dsimp only
   exact HK.out _ _ hb1 (rfl)
  case he =>
   rintro T W hb hA;have f18:T 3=.bool (!bS):=hA.at 18 (by decide);simp only [sA,f18];have hbw:=bu hbw hb;clear hA f18;go_wp2;go_ret;exact ⟨by rw [HZ.out]; rfl,hbw⟩
theorem znD (R S:List Nat) (f:Rat) (cap:List Rat) (g m:Nat) (L:List ((Nat × Nat) × Qo)) (aL:Option Addr) (cL:Nat) (w:World) (hR:R.length<=1000000) (hS:S.length<=1000000) (hL:L.length<=1000) (hc:Hid (cap.length=m)) (hm:m<=12) (h16:Hid (zaJ R/\zaJ S)) (hpc:Hid (∀ c∈cap,0 < c)) (hW:zdz w g R S f cap) (uL:EU 6 zcK w aL L) (hE:Env w)
  (Hsz:Hid (L.any (zcT R S)=false->zbn (L.map (·.2))=0->∃ sh,L=shQ sh/\OfS f cap sh)) :
  Calls Tryz.prog 57 #[.pointer (some ⟨g,0,none⟩),.slice aL L.length cL] w λ e w' => OfR R S f cap L w' e/\BH w w':=by
 have hbw:=Below.refl w.heap.size w;go_enter func57,ntmps57;go_upto_region 1 with fail;obtain ⟨wx,hwx,rp,r4,hb⟩:=zaO w 93 32 [.pointer (some ⟨g,0,none⟩)] [.bool false,.slice none 0 0,.bool false,.slice none 0 0];simp only [List.toArray] at hwx;rw [<- hwx];clear hwx;obtain ⟨wA,rfl⟩:=exi wx;obtain ⟨g4,hg4⟩:=exi (w.heap.size + 1);have Hg4:Hid (w.heap.size<=g4):=hii (by omega);rw [<- hg4] at r4 |-;clear hg4;obtain ⟨gp,hgp⟩:=exi (w.heap.size);have Hgp:Hid (w.heap.size<=gp):=hii (by omega);rw [<- hgp] at rp |-;clear hgp;have hW:=hW.mono hb;have uL:=uL.mono zan hb;have hE:=hE.mono hb;have hbw:=bu hbw hb;clear hb;have eg:∀ args w,(callFunc 105 args).run Tryz.prog w=.ok (.enter 105 args) w:=enters_of func105 (by kernel_rfl) rfl;have HK:=zeQ 105 #[.pointer (some ⟨gp,0,none⟩)] (zcT R S) eg L aL cL wA (by omega) uL (λ s J1 ao1 n1 Y1 K1 ap1 m1 Z1 W _ _ hb => zmI R S f cap g gp s W hR hS (rp.below hb) (hW.mono hb));obtain ⟨b,hb9⟩:∃ b,L.any (zcT R S)=b:=⟨_,rfl⟩;have Hb9:=hii hb9;rw [hb9] at HK;clear hb9 eg;have d0:=rp.cell (k:=0) (by simp);simp only [List.getElem_cons_zero] at d0;go_wp2_with fail;(with_reducible refine HK.mono ?_);rintro e wB ⟨rfl,hb⟩;have hW:=hW.mono hb;have uL:=uL.mono zan hb;have hE:=hE.mono hb;have rp:=rp.below hb;have r4:=r4.below hb;have hbw:=bu hbw hb;clear hb;clear HK d0
 cases b
 case true =>
  obtain ⟨p0,p1,p2,p3⟩:=r4.n4;have q0:=r4.free 0;have q1:=r4.free 1;have q2:=r4.free 2;have q3:=r4.free 3;have R9:=(((r4.set 0 (.bool false)).set 1 (.slice none 0 0)).set 2 (.bool false)).set 3 (.slice none 0 0);have R9:=hii R9;have HB9:=hii hbw;go_wp2;obtain ⟨e0,e1,e2,e3⟩:=Row.n4 R9.out;refine bodyPost_ret (v:=.tuple #[.agg #[.bool false,.slice none 0 0,.bool false,.slice none 0 0],.int .i64 (1)]) (by simp [results,Tryz.results57,go_sem,e0,e1,e2,e3]) rfl ⟨.inl ⟨Hb9.out,rfl⟩,?_⟩;exact HB9.out.trans ((zjV wB g4 _ _ _ _).below (λ b e => by rw [e]; exact Hg4.out) HB9.out.size)
 have HP:=zgK L aL cL wB (by omega) uL hE;obtain ⟨E,hE1⟩:∃ E,zbn (L.map (·.2))=E:=⟨_,rfl⟩;have HE1:=hii hE1;rw [hE1] at HP;clear hE1;go_wp2_with fail;(with_reducible refine HP.mono ?_);rintro e wC ⟨rfl,hb⟩;have hW:=hW.mono hb;have uL:=uL.mono zan hb;have hE:=hE.mono hb;have rp:=rp.below hb;have r4:=r4.below hb;have hbw:=bu hbw hb;clear hb;clear HP
 by_cases hE0:E=0
 case neg =>
  have hEn:((E:Int) != 0)=true:=by simp; omega
  have hEx:Hid (E ≠ 0):=hii hE0;clear hE0;obtain ⟨p0,p1,p2,p3⟩:=r4.n4;have q0:=r4.free 0;have q1:=r4.free 1;have q2:=r4.free 2;have q3:=r4.free 3;have R9:=(((r4.set 0 (.bool false)).set 1 (.slice none 0 0)).set 2 (.bool false)).set 3 (.slice none 0 0);have R9:=hii R9;have HB9:=hii hbw;go_wp2;obtain ⟨e0,e1,e2,e3⟩:=Row.n4 R9.out;refine bodyPost_ret (v:=.tuple #[.agg #[.bool false,.slice none 0 0,.bool false,.slice none 0 0],.int .i64 ((E:Nat))]) (by simp [results,Tryz.results57,go_sem,e0,e1,e2,e3]) rfl ⟨.inr (.inl ⟨Hb9.out,by rw [HE1.out]; exact hEx.out,by rw [HE1.out]; rfl⟩),?_⟩;exact HB9.out.trans ((zjV wC g4 _ _ _ _).below (λ b e => by rw [e]; exact Hg4.out) HB9.out.size)
 subst hE0;obtain ⟨sh,hsh,hOf⟩:=Hsz.out Hb9.out HE1.out;have Hsh:=hii hsh;have HOf:=hii hOf;obtain ⟨N,hN⟩:∃ N,L.length=N:=⟨_,rfl⟩;have HN:=hii hN;have HNs:Hid (sh.length=N):=hii (by rw [<- hN,hsh]; simp [shQ]);rw [hN] at hL |-;clear hsh hOf hN;go_wp2_with fail;go_fit (zaF 0 (by decide) (by decide) wC hE);rintro e wb ⟨hz,hb⟩;have hW:=hW.mono hb;have uL:=uL.mono zan hb;have hE:=hE.mono hb;have rp:=rp.below hb;have r4:=r4.below hb;have hbw:=bu hbw hb;clear hb;obtain ⟨J3,ao3,n3,Y3,K3,ap3,m3,Z3,rfl,hV⟩:=hz.rat;have hV:zac wb (qA J3 ao3 n3 Y3 K3 ap3 m3 Z3) (mxS f cap sh 0):=hV;clear hz;go_upto_region 7 with fail;have hb:=bA wb (.cells #[.bool J3,.slice ao3 n3 Y3,.bool K3,.slice ap3 m3 Z3] 32);have r7:Row (wb.alloc (.cells #[.bool J3,.slice ao3 n3 Y3,.bool K3,.slice ap3 m3 Z3] 32)) wb.heap.size 32 [.bool J3,.slice ao3 n3 Y3,.bool K3,.slice ap3 m3 Z3]:=heap_alloc_new _ _;obtain ⟨g7,hg⟩:∃ g,g=wb.heap.size:=⟨_,rfl⟩;have hgl:wb.heap.size<=g7:=by omega
 rw [<- hg] at r7 |-;clear hg;have HbX:=hii hb;have hV:=hV.mono hb;generalize wb.alloc (.cells #[.bool J3,.slice ao3 n3 Y3,.bool K3,.slice ap3 m3 Z3] 32)=wD at *;have hW9:=hW;obtain ⟨aR,cR,aS,cS,J5,ao5,n5,Y5,K5,ap5,m5,Z5,J6,ao6,n6,Y6,K6,ap6,m6,Z6,aC,cC,rW,-,-,-,-,uC⟩:=hW9;rw [hc.out] at rW;have d0:=(rp.below HbX.out).cell (k:=0) (by simp);simp only [List.getElem_cons_zero] at d0;obtain ⟨-,-,-,-,-,-,-,-,-,-,k10⟩:=(rW.below HbX.out).n11;go_wp2_with fail;clear d0 k10 hb;go_loopw [32] (λ s wr => ∃ i:Nat,∃ J3 ao3 n3 Y3 K3 ap3 m3 Z3,i<=m/\s=.int .i64 i/\Row wr g7 32 [.bool J3,.slice ao3 n3 Y3,.bool K3,.slice ap3 m3 Z3]/\zac wr (qA J3 ao3 n3 Y3 K3 ap3 m3 Z3) (mxS f cap sh i)/\Hid (BH wb wr)) (λ s _ => m - (intOf s).toNat)
 case atStart => exact ⟨0,_,_,_,_,_,_,_,_,Nat.zero_le _,rfl,r7,hV,HbX⟩
 case round =>
  clear r7 hV HbX;obtain ⟨i,J3,ao3,n3,Y3,K3,ap3,m3,Z3,hi,rfl,r7,hV,HbX⟩:=hrel
  by_cases hlt:i < m
  ·obtain ⟨c,hcx⟩:∃ c,cap[i]?=some c:=⟨cap[i]'(by rw [hc.out]; exact hlt),gE _⟩;have hcd:cap.getD i 0=c:=by rw [List.getD_eq_getElem?_getD,hcx]; rfl
   obtain ⟨hj1,hj2,hj3⟩:=HOf.out i (by rw [hc.out]; exact hlt);rw [hcd] at hj2 hj3;have Hj1:=hii hj1;have Hj2:=hii hj2;have Hj3:=hii hj3;have Hcn:Hid (c.num ≠ 0):=hii (λ e => by have h:=hpc.out c (List.mem_of_getElem? hcx); rw [Rat.num_eq_zero.1 e] at h; exact Rat.lt_irrefl h);have Hmx:Hid (mxS f cap sh (i + 1)=if mxS f cap sh i < tS f sh i / c then tS f sh i / c else mxS f cap sh i):=hii (by rw [<- hcd]; rfl);obtain ⟨bC,offC,J4,ao4,n4,Y4,K4,ap4,m4,Z4,eC,z4,hvc⟩:=(uC.mono HbX.out) i (some c) (by rw [List.getElem?_map,hcx]; rfl);have hvc:zac wr (qA J4 ao4 n4 Y4 K4 ap4 m4 Z4) c:=hvc;have hWk:=hW.mono HbX.out;have uLk:=uL.mono zan HbX.out;have hEk:=hE.mono HbX.out;have rpk:=rp.below HbX.out;have him:(i:Int) < (m:Int):=by omega
   subst eC;clear hcx hcd hj1 hj2 hj3;obtain ⟨f0,f1,f2,f3,_,_,_,_⟩:=z4;have hbr:=Below.refl wr.heap.size wr;go_upto_region 10 with fail;clear f0 f1 f2 f3;have hbw9:=hbr;obtain ⟨we,g9,hw9,hg9,hb,r9⟩:=bxr wr [.bool J4,.slice ao4 n4 Y4,.bool K4,.slice ap4 m4 Z4] 32;rw [<- hw9,<- hg9];have Hg9:Hid (wr.heap.size<=g9):=hii (by omega);clear hw9 hg9;have hvc:=hvc.mono hb;have hWk:=hWk.mono hb;have hEk:=hEk.mono hb;have rpk:=rpk.below hb;have r7:=r7.below hb;have hV:=hV.mono hb;have uLk:=uLk.mono zan hb;have hbr:=bu hbr hb;clear hb hbw9;obtain ⟨wi,rfl⟩:=exi we;go_wp2_with fail;go_fit (zdt wi hEk);rintro e wj ⟨⟨g10,rfl,hg10,hS⟩,hbj⟩;have hS:zcr wj g10 0 (tS f (sh.take 0) i):=by simpa [tS,zbM] using hS
   have HG:=hii (zhd.of hEk hg10 hbj);go_wp2_with fail;go_loopw [40] (λ s wr => ∃ j:Nat,j<=N/\s=.int .i64 j/\zcr wr g10 0 (tS f (sh.take j) i)/\Hid (BH wi wr)) (λ s _ => N - (intOf s).toNat)
   case atStart => exact ⟨0,Nat.zero_le _,rfl,hS,hii hbj⟩
   case round =>
    clear hS hbj HG;obtain ⟨j,hj,rfl,hS,Hbj⟩:=hrel
    by_cases hlj:j < N
    ·obtain ⟨⟨⟨r,s⟩,x⟩,hx⟩:∃ x,sh[j]?=some x:=⟨sh[j]'(by rw [HNs.out]; exact hlj),gE _⟩;have hxL:L[j]?=some ((r,s),some x):=by rw [Hsh.out]; unfold shQ; rw [List.getElem?_map,hx]; rfl
     have hin:((r,s),some x)∈L:=List.mem_of_getElem? hxL;have hmiss:zcT R S ((r,s),some x)=false:=List.any_eq_false.1 Hb9.out _ hin |> λ h => by simpa using h
     have hmm:r∈R/\s∈S:=by
      unfold zcT at hmiss;simp only [Bool.or_eq_false_iff,Bool.not_eq_false',List.any_eq_true,decide_eq_true_eq] at hmiss;obtain ⟨⟨a,ha,rfl⟩,⟨b,hb,rfl⟩⟩:=hmiss;exact ⟨ha,hb⟩
     have hr16:=h16.out.1 r hmm.1;have hs16:=h16.out.2 s hmm.2;obtain ⟨HMu,HAd⟩:=Hj1.out j _ hx;have HMu:=hii HMu;have HAd:=hii HAd;have HTS:Hid (tS f (sh.take (j + 1)) i=tS f (sh.take j) i + x * wt f (r,s) i):=hii (zk7 hx);obtain ⟨b1,off1,J1,ao1,n1,Y1,K1,ap1,m1,Z1,ea,hv,h0,h1,h2,h3,h4,h5⟩:=(uLk.mono zan Hbj.out).six hxL;have hv:zac wr (qA J1 ao1 n1 Y1 K1 ap1 m1 Z1) x:=hv;have hjN:(j:Int) < (N:Int):=by omega
     have HG:=hii (zhd.of hEk hg10 Hbj.out);obtain ⟨t,ht⟩:∃ t,wt f (r,s) i=t:=⟨_,rfl⟩;have Ht:=hii ht;rw [ht] at HMu HAd HTS;obtain ⟨acc,hacc⟩:∃ t,tS f (sh.take j) i=t:=⟨_,rfl⟩;rw [hacc] at HAd HTS hS;subst ea;clear hx hxL hin hmiss hmm ht hacc;go_upto_region 14 with fail;clear h0 h1 h2 h3 h4 h5;have hb:=bA wr (.cells #[.int .u16 (r:Nat),.int .u16 (s:Nat),.bool J1,.slice ao1 n1 Y1,.bool K1,.slice ap1 m1 Z1] 59);have r12:Row (wr.alloc (.cells #[.int .u16 (r:Nat),.int .u16 (s:Nat),.bool J1,.slice ao1 n1 Y1,.bool K1,.slice ap1 m1 Z1] 59)) wr.heap.size 59 [.int .u16 (r:Nat),.int .u16 (s:Nat),.bool J1,.slice ao1 n1 Y1,.bool K1,.slice ap1 m1 Z1]:=heap_alloc_new _ _;have hg12:wr.heap.size ≠ g10:=by have:=hS.lt; omega
     have hgp10:¬ gp=g10:=by have:=rpk.lt; omega
     obtain ⟨g12,hgg⟩:∃ g,g=wr.heap.size:=⟨_,rfl⟩;rw [<- hgg] at r12 hg12 |-;clear hgg;generalize wr.alloc (.cells #[.int .u16 (r:Nat),.int .u16 (s:Nat),.bool J1,.slice ao1 n1 Y1,.bool K1,.slice ap1 m1 Z1] 59)=wc at *;have hv:=hv.mono hb;have hS:=hS.mono hb;have HG:=hii (HG.out.mono hb);have Hbj:=hii (Below.step Hbj.out hb nl);have hWc:=hWk.mono Hbj.out;have rpc:=rpk.below Hbj.out;clear hb;have Hn:Hid (NoU (λ b => b=g10) wc):=hii hS.noU;have SS0:=hii hS;clear hS;refine zaY (G:=(λ b => b=g10)) (wx:=wc) [vf (.pointer (some ⟨g10,0,none⟩)),vf (.pointer (some ⟨g12,2,none⟩)),vf (.agg #[.bool J1,.slice ao1 n1 Y1,.bool K1,.slice ap1 m1 Z1]),vf (.pointer (some ⟨g,0,none⟩)),vf (.pointer (some ⟨g12,0,none⟩)),vf (.int .u16 (r:Nat)),vf (.pointer (some ⟨g12,1,none⟩)),vf (.int .u16 (s:Nat)),vf (.int .i64 i),(RU (λ b => b=g10) t),(λ _ _ => True)] [some 44,some 45,some 46,some 47,some 48,some 49,some 50,some 51,some 52,some 53,some 54] [44,45,46,47,48,49,50,51,52,53,54] [10] [[0],[0,1],[0],[0,1],[0,1],[0,1],[0,1],[0,1],[0,1],[0],[0]] [none,none,none,none,none,none,none,none,none,none,none] (λ p T W => match p with | 0 => BH wc W | _ + 1 => zcr W g10 0 (acc + x * t)) (by kernel_rfl) (by kernel_rfl) (by kernel_rfl) (by kernel_rfl) (of_decide_eq_true (by kernel_rfl)) (of_decide_eq_true (by kernel_rfl)) (by kernel_rfl) (by kernel_rfl) (λ T => br.drew) (λ p T W W' h hb => match p,h with | 0,h => bu h hb | _ + 1,h => h.mono hb) (λ p T T' W hT h => match p,hT,h with | 0,_,h => h | _ + 1,_,h => h) (zaf.refl _) ⟨zaa _ _,zaa _ _,zaa _ _,zaa _ _,zaa _ _,zaa _ _,zaa _ _,zaa _ _,zaa _ _,RU.stay,(λ _ _ _ h _ => h),trivial⟩ ⟨?s0,?s1,?s2,?s3,?s4,?s5,?s6,?s7,?s8,?s9,?s10,trivial⟩ ?he
     case' s0 | s1 | s2 | s3 | s4 | s5 | s6 | s7 | s8 | s9 | s10 =>
      rintro T W p hb hp hS hA K hK
     case' s0 | s1 | s4 | s6 | s8 =>
      clear hS;simp only [sA] at hK |-
     case' s2 =>
      clear hS;have e1:T 45=_:=hA.1 rfl;obtain ⟨h0,h1,h2,h3,h4,h5⟩:=(r12.mono hb hg12).n6;simp only [sA,e1] at hK |-
     case' s3 =>
      clear hS;have d0:=(rpc.mono hb hgp10).cell (k:=0) (by simp);simp only [List.getElem_cons_zero] at d0;simp only [sA] at hK |-
     case' s5 =>
      clear hS;have e4:T 48=_:=hA.1 rfl;obtain ⟨h0,h1,h2,h3,h4,h5⟩:=(r12.mono hb hg12).n6;simp only [sA,e4] at hK |-
     case' s7 =>
      clear hS;have e6:T 50=_:=hA.1 rfl;obtain ⟨h0,h1,h2,h3,h4,h5⟩:=(r12.mono hb hg12).n6;simp only [sA,e6] at hK |-
     case s0 | s1 | s2 | s3 | s4 | s5 | s6 | s7 | s8 =>
      have HK:=hii hK;clear hK hA;refine wO rfl (by rfl) ?_;go_simp;exact HK.out _ _ ⟨λ _ => br,λ h => absurd h (zap (by decide) (by decide))⟩ (rfl)
     case s9 =>
      obtain rfl:p=0:=by simpa using hp
      have hS:BH wc W:=hS;have e3:T 47=_:=hA.1 rfl;have e5:T 49=_:=hA.2.1 rfl;have e7:T 51=_:=hA.2.2.1 rfl;have e8:T 52=_:=hA.2.2.2.1 rfl;simp only [sA,e3,e5,e7,e8] at hK |-;have HK:=hii hK;clear hK hA;refine wO rfl (by rfl) ?_;go_simp;go_fit (zdh g R S f cap r s i W hr16 hs16 (by omega) (hWc.mono hS) (HG.out.mono hS).env);rintro e w1 ⟨hz,hb1⟩;rw [Ht.out] at hz;obtain ⟨J7,ao7,n7,Y7,K7,ap7,m7,Z7,rfl,hV7⟩:=hz.rat;have hn1:NoU (λ b => b=g10) w1:=(SS0.out.mono (bu hS hb1)).noU
      try dsimp only
      exact HK.out _ _ ⟨λ _ => hb1,λ h => absurd h (zap (by decide) (by decide))⟩ (hV7.ru hn1)
     case s10 =>
      obtain rfl:p=0:=by simpa using hp
      have hS:BH wc W:=hS;have e0:T 44=_:=hA.1 rfl;have e2:T 46=_:=hA.2.1 rfl;have r9:(_:World->Value->Prop) W (T 53):=hA.2.2.1 rfl;have r9:RU (λ b => b=g10) t W _:=r9;obtain ⟨J8,ao8,n8,Y8,K8,ap8,m8,Z8,e9⟩:=r9.rat.parts;rw [e9] at r9;simp only [sA,e0,e2,e9] at hK |-;have HK:=hii hK;clear hK hA;refine wO rfl (by rfl) ?_;go_simp;go_fit (zgq g10 acc x t _ _ W (SS0.out.mono hS) (hv.mono hS) r9.rat HMu HAd (HG.out.mono hS));rintro e w1 ⟨rfl,hs1,hk1⟩
      try dsimp only
      exact HK.out _ _ ⟨λ h => absurd rfl h,λ _ => ⟨hs1,hk1⟩⟩ (trivial)
     case he =>
      rintro T W hb hS hA;have hS:zcr W g10 0 (acc + x * t):=hS;simp only [sA];clear hA;have Hbj2:=hii (Hbj.out.trans (hb.below (λ b e => by rw [e]; exact hg10) Hbj.out.size));rw [<- HTS.out] at hS;clear hb;go_wp2;go_roundw
      case rel => exact ⟨j + 1,by omega,by go_num,hS,Hbj2⟩
      case measure => simp [intOf]; omega
    ·have hjN:j=N:=by omega
     rw [hjN,List.take_of_length_le (by rw [HNs.out]; exact nl)] at hS;have hjn:¬ (j:Int) < (N:Int):=by omega
     obtain ⟨acc,hacc⟩:∃ t,tS f sh i=t:=⟨_,rfl⟩;rw [hacc] at hS Hj2 Hj3 Hmx;have hEr:=hEk.mono Hbj.out;have r9k:=r9.below Hbj.out;have hvk:=hvc.mono Hbj.out;have r7k:=r7.below Hbj.out;have hVk:=hV.mono Hbj.out;obtain ⟨J1,ao1,n1,Y1,K1,ap1,m1,Z1,rS,hVS⟩:=hS;have hVS:=hVS rfl;obtain ⟨k0,k1,k2,k3,k4⟩:=rS.n5;clear hacc hjN hlj;go_upto_region 18 with fail;clear k0 k1 k2 k3 k4 hjn;obtain ⟨wc,rfl⟩:=exi wr;refine zaq (wx:=wc) (λ _ => False) [(λ _ X _ => X 0=.pointer (some ⟨g10,0,none⟩)),(λ _ X _ => X 1=.pointer (some ⟨g10,0,none⟩)),(λ _ X _ => X 2=.pointer (some ⟨g10,0,none⟩)),(λ _ X _ => X 3=.agg #[.bool J1,.slice ao1 n1 Y1,.bool K1,.slice ap1 m1 Z1]),(λ _ X _ => X 4=.agg #[.bool J4,.slice ao4 n4 Y4,.bool K4,.slice ap4 m4 Z4]),(λ G X W => ((λ _ W v => ∃ a,v=.tuple #[a,.int .i64 0]/\zac W a (acc / c)):(Nat->Prop)->World->Value->Prop) G W (X 5)),(λ G X W => ((λ _ W v => ∃ a,v=.tuple #[a,.int .i64 0]/\zac W a (acc / c)):(Nat->Prop)->World->Value->Prop) G W (X 6)),(λ G X W => ((FQ (acc / c)):(Nat->Prop)->World->Value->Prop) G W (X 7)),(λ _ X _ => X 8=.int .i64 0),(λ _ _ _ => True),(λ _ _ _ => True),(λ _ X _ => X 11=.int .i64 0)] [some 67,some 68,some 69,some 70,some 71,some 72,some 66,some 73,some 74,some 13,none,some 14] [none,none,none,none,none,none,none,none,none,some ⟨10,7,32,[.bool false,.slice none 0 0,.bool false,.slice none 0 0]⟩,none,none] [67,68,69,70,71,72,66,73,74,13,14] (by kernel_rfl) (by kernel_rfl) (by kernel_rfl) (by kernel_rfl) (of_decide_eq_true (by kernel_rfl)) (by kernel_rfl) ⟨(by intro u hu k z e; subst e; simp at hu),trivial⟩ (λ b h => h) br ⟨zab _ _ _,zab _ _ _,zab _ _ _,zab _ _ _,zab _ _ _,(zaw (F:=λ _ W v => ∃ a,v=.tuple #[a,.int .i64 0]/\zac W a (acc / c)) λ G G' W W' v ⟨a,e,h⟩ hk hn hG => ⟨a,e,h.kept hk hn⟩),(zaw (F:=λ _ W v => ∃ a,v=.tuple #[a,.int .i64 0]/\zac W a (acc / c)) λ G G' W W' v ⟨a,e,h⟩ hk hn hG => ⟨a,e,h.kept hk hn⟩),za7 _,zab _ _ _,zao _,zao _,zab _ _ _,trivial⟩ ⟨⟨λ _ _ _ => trivial,λ _ _ _ => trivial⟩,trivial⟩ ⟨?s0,?s1,?s2,?s3,?s4,?s5,?s6,?s7,?s8,?s9,?s10,?s11,trivial⟩ ⟨?b9,trivial⟩ ?he
     case' s0 | s1 | s2 | s3 | s4 | s5 | s6 | s7 | s8 =>
      rintro - G T W hb hHG hGW hGo hNG hA K hK
     case' s0 =>
      simp only [sA] at hK |-
     case' s1 =>
      have e0:T 67=_:=hA.1;simp only [sA,e0] at hK |-
     case' s2 =>
      have e1:T 68=_:=hA.1;simp only [sA,e1] at hK |-
     case' s3 =>
      have e2:T 69=_:=hA.1;have h9:=rS.below hb;obtain ⟨k0,k1,k2,k3,k4⟩:=h9.n5;simp only [sA,e2] at hK |-
     case' s4 =>
      obtain ⟨e0,e1,e2,e3⟩:=(r9k.below hb).n4;simp only [sA] at hK |-
     case' s8 =>
      have r6:((λ _ W v => ∃ a,v=.tuple #[a,.int .i64 0]/\zac W a (acc / c)):(Nat->Prop)->World->Value->Prop) G W (T 66):=hA.1;obtain ⟨a6,e6,h6⟩:=r6;simp only [sA,e6] at hK |-
     case s0 | s1 | s2 | s3 | s4 | s8 =>
      have HK:=hii hK;clear hK hA;refine wO rfl (by rfl) ?_;go_simp;exact HK.out _ _ br λ X hX _ => hX
     case s5 =>
      have e3:T 70=_:=hA.1;have e4:T 71=_:=hA.2.1;simp only [sA,e3,e4] at hK |-;have HK:=hii hK;clear hK hA;refine wO rfl (by rfl) ?_;go_simp;go_fit (zkz _ _ acc c 0 W (hVS.mono hb) (hvk.mono hb) Hcn (hii (KQ.ok Hj2.out)) (hEr.mono hb));rintro e w1 ⟨hz,hb1⟩;obtain ⟨J7,ao7,n7,Y7,K7,ap7,m7,Z7,rfl,hV7⟩:=hz.got.rat
      try dsimp only
      exact HK.out _ _ (hb1) λ X hX _ => by
       show ((λ _ W v => ∃ a,v=.tuple #[a,.int .i64 0]/\zac W a (acc / c)):(Nat->Prop)->World->Value->Prop) G _ (X 5)
       rw [hX];exact ⟨_,rfl,hV7⟩
     case s6 =>
      have r5:((λ _ W v => ∃ a,v=.tuple #[a,.int .i64 0]/\zac W a (acc / c)):(Nat->Prop)->World->Value->Prop) G W (T 72):=hA.1;obtain ⟨a6,e5,h6⟩:=r5;simp only [sA,e5] at hK |-;have HK:=hii hK;clear hK hA;refine wO rfl (by rfl) ?_;go_simp;exact HK.out _ _ br λ X hX _ => by
       show ((λ _ W v => ∃ a,v=.tuple #[a,.int .i64 0]/\zac W a (acc / c)):(Nat->Prop)->World->Value->Prop) G _ (X 6)
       rw [hX];exact ⟨_,rfl,h6⟩
     case s7 =>
      have r6:((λ _ W v => ∃ a,v=.tuple #[a,.int .i64 0]/\zac W a (acc / c)):(Nat->Prop)->World->Value->Prop) G W (T 66):=hA.1;obtain ⟨a6,e6,h6⟩:=r6;simp only [sA,e6] at hK |-;have HK:=hii hK;clear hK hA;refine wO rfl (by rfl) ?_;go_simp;exact HK.out _ _ br λ X hX _ => by
       show ((FQ (acc / c)):(Nat->Prop)->World->Value->Prop) G _ (X 7)
       rw [hX];exact h6
     case s9 => exact λ h => absurd h (by decide)
     case s10 => exact λ h => absurd h (by decide)
     case s11 =>
      rintro - G T W hb hHG hGW hGo hNG hA K hK;have e8:T 74=_:=hA.1;simp only [sA,e8] at hK |-;have HK:=hii hK;clear hK hA;refine wO rfl (by rfl) ?_;go_simp;exact HK.out _ _ br λ X hX _ => hX
     case b9 =>
      refine ⟨?_,?_⟩
      ·rintro o ho T W K hK;obtain rfl:=Option.some.inj ho;simp only [sA] at hK |-;have HK:=hii hK;clear hK ho;refine wO rfl (by rfl) ?_;go_simp;exact HK.out
      ·rintro o ho G T W nb hA hp hrow K hK;obtain rfl:=Option.some.inj ho;have ep:T 13=.pointer (some ⟨nb,0,none⟩):=hp;have r7:((FQ (acc / c)):(Nat->Prop)->World->Value->Prop) G W (T 73):=hA.2.1;have r7:zac W _ (acc / c):=r7;obtain ⟨J8,ao8,n8,Y8,K8,ap8,m8,Z8,e7⟩:=r7.parts;have hK:=hK [.bool J8,.slice ao8 n8 Y8,.bool K8,.slice ap8 m8 Z8] (.inl e7) rfl (by intro u hu k z e; subst e; simp at hu);simp only [sA,ep,e7] at hK |-;have HK:=hii hK;clear hK hA ho;have q0:=hrow.cell (k:=0) (by simp);have f0:=hrow.free 0;have q1:=hrow.cell (k:=1) (by simp);have f1:=hrow.free 1;have q2:=hrow.cell (k:=2) (by simp);have f2:=hrow.free 2;have q3:=hrow.cell (k:=3) (by simp);have f3:=hrow.free 3;simp only [List.getElem_cons_zero,List.getElem_cons_succ] at q0 q1 q2 q3;refine wO rfl (by rfl) ?_;go_simp;exact HK.out
     case he =>
      rintro GG N T W hb hHG hGW hGo hbox hNG hne hA;have fv:((FQ (acc / c)):(Nat->Prop)->World->Value->Prop) GG W (T 73):=hA.at 7 (by decide);have f11:T 14=.int .i64 0:=hA.at 11 (by decide);obtain ⟨ep,_,hge,vs,hsto,hrow⟩:=hbox 9 _ rfl;have ep:T 13=.pointer (some ⟨N 9,0,none⟩):=ep;have fv:zac W _ (acc / c):=fv;obtain ⟨J5,ao5,n5,Y5,K5,ap5,m5,Z5,e5⟩:=fv.parts;obtain rfl:=hsto.four e5;rw [e5] at fv;simp only [sA,ep,f11];obtain ⟨g13,hg⟩:∃ g,g=N 9:=⟨_,rfl⟩;rw [<- hg] at hrow hge |-;have Hg13:=hii hge;clear hA hbox hNG hne hHG hGW hGo ep f11 hsto hge e5 hg;have r13:Row W g13 32 [.bool J5,.slice ao5 n5 Y5,.bool K5,.slice ap5 m5 Z5]:=hrow;have hbr2:=hii (Below.step (hbr.trans (Hbj.out.mono hbr.size)) hb (Nat.le_trans nl nl));have r7k:=r7k.below hb;have hVk:=hVk.mono hb;have hEr:=hEr.mono hb;have hg713:g13 ≠ g7:=by have:=Hg13.out; have:=(r7.below Hbj.out).lt; omega
      clear hb hrow r9k hvk rS hVS;obtain ⟨wd,rfl⟩:=exi W;obtain ⟨mx,hmx⟩:∃ x,mxS f cap sh i=x:=⟨_,rfl⟩;rw [hmx] at hVk Hj3 Hmx;clear hmx;obtain ⟨cc,hcc⟩:∃ x,Rq.cmpQ (acc / c) mx=x:=⟨_,rfl⟩;have Hcc:=hii hcc;clear hcc;obtain ⟨e0,e1,e2,e3⟩:=r13.n4;obtain ⟨k0,k1,k2,k3⟩:=r7k.n4;go_wp2_with fail;go_fit (zjo _ _ (acc / c) mx wd fv hVk Hj3 hEr);rw [Hcc.out];rintro e we ⟨rfl,hb⟩;have r13:=r13.below hb;have r7k:=r7k.below hb;have hVk:=hVk.mono hb;have fv:=fv.mono hb;have HbX2:=hii (HbX.out.trans ((Below.step hbr2.out hb (Nat.le_trans nl nl)).mono HbX.out.size));clear hb e0 e1 e2 e3 k0 k1 k2 k3 hEr;have hgt:=zg3 (acc / c) mx;rw [Hcc.out] at hgt
      by_cases hgx:mx < acc / c
      ·have hd:decide (0 < cc)=true:=by rw [hgt]; exact decide_eq_true hgx
       rw [if_pos hgx] at Hmx;have hd0:(0:Int) < cc:=of_decide_eq_true hd;obtain ⟨e0,e1,e2,e3⟩:=r13.n4;obtain ⟨k0,k1,k2,k3⟩:=r7k.n4;have q0:=r7k.free 0;have q1:=r7k.free 1;have q2:=r7k.free 2;have q3:=r7k.free 3;have HP4:=hii (zkG r7k noI4' (.bool J5) (.slice ao5 n5 Y5) (.bool K5) (.slice ap5 m5 Z5) fv);have HbX3:=hii (HbX2.out.trans (HP4.out.2.1.below (λ b e => by rw [e]; exact hgl) HbX2.out.size));clear r7k hVk fv hgt hd;go_wp2;go_roundw
       case rel => exact ⟨i + 1,_,_,_,_,_,_,_,_,by omega,by go_num,HP4.out.1,by rw [Hmx.out]; exact HP4.out.2.2,HbX3⟩
       case measure => simp [intOf]; omega
      ·have hd:decide (0 < cc)=false:=by rw [hgt]; exact decide_eq_false hgx
       rw [if_neg hgx] at Hmx;have hd0:¬ (0:Int) < cc:=of_decide_eq_false hd;clear hgt hd;go_wp2;go_roundw
       case rel => exact ⟨i + 1,_,_,_,_,_,_,_,_,by omega,by go_num,r7k,by rw [Hmx.out]; exact hVk,HbX2⟩
       case measure => simp [intOf]; omega
  ·have him:i=m:=by omega
   rw [him] at hV;have hin:¬ (i:Int) < (m:Int):=by omega
   have r4:=r4.below HbX.out;obtain ⟨p0,p1,p2,p3⟩:=r4.n4;obtain ⟨k0,k1,k2,k3⟩:=r7.n4;have q0:=r4.free 0;have q1:=r4.free 1;have q2:=r4.free 2;have q3:=r4.free 3;have HP4:=hii (zkG r4 zlt (.bool J3) (.slice ao3 n3 Y3) (.bool K3) (.slice ap3 m3 Z3) hV);have Hbw:=hii (hbw.trans (HbX.out.mono hbw.size));clear r7 r4 hV hbw him hlt hi;go_wp2;obtain ⟨R1,R2,R3⟩:=HP4.out;obtain ⟨e0,e1,e2,e3⟩:=Row.n4 R1;refine bodyPost_ret (v:=.tuple #[.agg #[.bool J3,.slice ao3 n3 Y3,.bool K3,.slice ap3 m3 Z3],.int .i64 0]) (by simp [results,Tryz.results57,go_sem,e0,e1,e2,e3]) rfl ⟨.inr (.inr ⟨Hb9.out,HE1.out,sh,Hsh.out,by rw [hc.out]; exact zcL.mk R3⟩),?_⟩;exact Hbw.out.trans (R2.below (λ b e => by rw [e]; exact Hg4.out) Hbw.out.size)
end Go.Proofs.YtfgffkmddanjjaaGreatDoor
