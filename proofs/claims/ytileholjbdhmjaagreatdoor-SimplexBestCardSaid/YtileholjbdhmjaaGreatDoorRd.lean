/-
  The reference of chapter 13: optima; equal lists.
-/
import Derived.Test.YtileholjbdhmjaaGreatDoorRc
set_option linter.unusedVariables false
set_option linter.unusedSimpArgs false
set_option maxRecDepth 100000
set_option maxHeartbeats 25600000
namespace Go.Proofs.YtileholjbdhmjaaGreatDoor
open Go.RowKit
theorem roptimal13 (A:List (List Rat)) (b C x y:List Rat) (val:Rat) (hl:Hid (A.length=b.length/\y.length=b.length/\b.length<=1000000/\C.length<=1000000/\x.length=C.length)) (hr:Hid (∀ r∈A,r.length=C.length)) (h0:Hid (∀ r∈y,negR r=false))
  (hD:Hid (∀ (k:Nat) (c:Rat),C[k]?=some c->∃ s,DotS 0 (colR A k) y (some s)/\CrS s c/\c<=s)) (hD1:Hid (∀ (k:Nat) (a:List Rat) (bi:Rat),A[k]?=some a->b[k]?=some bi->∃ s,DotS 0 a x (some s)/\CrS s bi)) (hF:Hid (fitsB A b x=true)) (hV1:Hid (∃ s,DotS 0 C x (some s)/\CrS s val/\Rq.cmpQ s val=0)) (hV2:Hid (∃ s,DotS 0 b y (some s)/\CrS s val/\Rq.cmpQ s val=0))
  (ng3:Bool) (ao3:Option Addr) (n3 cap3:Nat) (nh3:Bool) (ap3:Option Addr) (m3 caq3:Nat) (ay:Option Addr) (cy:Nat) (aA aB aC ax:Option Addr) (cA cB cC cx:Nat) (w:World) (uA:UM w aA (A.map (·.map some))) (uB:UQ w aB (b.map some)) (uC:UQ w aC (C.map some)) (ux:UQ w ax (x.map some)) (hE:Env w) (uy:UQ w ay (y.map some)) (hv:RatV w (.agg #[.bool ng3,.slice ao3 n3 cap3,.bool nh3,.slice ap3 m3 caq3]) val) :
  Calls Tryz.prog 16 #[.agg #[.slice aA A.length cA,.slice aB b.length cB,.slice aC C.length cC],.agg #[.bool ng3,.slice ao3 n3 cap3,.bool nh3,.slice ap3 m3 caq3,.slice ax x.length cx,.slice ay y.length cy]] w λ e w' => e=.returned (.bool true)/\Below w.heap.size w w':=by
 have hx6:x.length<=1000000:=by have:=hl.out; omega
 have HP:=hii (λ w uA uB uC uy hE => rprices13 A b C y (hii ⟨by have:=hl.out; omega,hl.out.2.1,hl.out.2.2.1,hl.out.2.2.2.1,hl.out.1⟩) hr h0 hD aA aB aC ay cA cB cC cy w uA uB uC uy hE);have HFI:=hii (λ w uA uB uC ux hE => rfits13 A b C x (hii ⟨by have:=hl.out; omega,by have:=hl.out; omega,hx6⟩) (hii λ r h => by rw [hl.out.2.2.2.2]; exact hr.out r h) hD1 aA aB aC ax cA cB cC cx w uA uB uC ux hE);have HL:=hl;clear hl hD hD1;go_enter Tryz.func16,Tryz.ntmps16;go_upto_region 1 with fail;obtain ⟨wx,hwx,r1,r2,hb⟩:=two_rows w 30 40 [.slice aA A.length cA,.slice aB b.length cB,.slice aC C.length cC] [.bool ng3,.slice ao3 n3 cap3,.bool nh3,.slice ap3 m3 caq3,.slice ax x.length cx,.slice ay y.length cy];simp only [List.toArray] at hwx;rw [<- hwx];clear hwx;obtain ⟨g2,hg2⟩:=exi (w.heap.size + 1);rw [<- hg2] at r2 |-;clear hg2;obtain ⟨g,hg1⟩:∃ g1,g1=w.heap.size:=⟨_,rfl⟩;rw [<- hg1] at r1 |-;clear hg1;obtain ⟨w1,rfl⟩:=exi wx;have hbw:=hb;have hE1:=hE.mono hb;have hyx:=congrArg Int.ofNat HL.out.2.2.2.2;simp only [Int.ofNat_eq_natCast] at hyx;clear hb;obtain ⟨x0,x1,x2⟩:=r1.n3;obtain ⟨y0,y1,y2,y3,y4,y5⟩:=r2.n6;go_wp2_with fail;(with_reducible refine (HP.out w1 (uA.mono hbw) (uB.mono hbw) (uC.mono hbw) (uy.mono hbw) hE1).mono ?_);rintro e w2 ⟨rfl,hb⟩;have hbw:=bu hbw hb;have r1:=r1.below hb;have r2:=r2.below hb;have hE1:=hE1.mono hb;clear hb HP x0 x1 x2 y0 y1 y2 y3 y4 y5;obtain ⟨y0,y1,y2,y3,y4,y5⟩:=r2.n6;go_wp2_with fail;(with_reducible refine (rValid_true _ val w2 (hv.mono hbw) hE1).mono ?_);rintro e w3 ⟨rfl,hb⟩;have hbw:=bu hbw hb;have r1:=r1.below hb;have r2:=r2.below hb;clear hb hE1 hyx y0 y1 y2 y3 y4 y5;go_wp2_with fail;go_loopw [5] (λ s wr => ∃ k:Nat,k<=x.length/\s=.int .i64 (k:Nat)/\Below w.heap.size w wr/\Row wr g 30 [.slice aA A.length cA,.slice aB b.length cB,.slice aC C.length cC]/\Row wr g2 40 [.bool ng3,.slice ao3 n3 cap3,.bool nh3,.slice ap3 m3 caq3,.slice ax x.length cx,.slice ay y.length cy]) (λ s _ => x.length - (intOf s).toNat)
 case atStart => exact ⟨0,Nat.zero_le _,rfl,hbw,r1,r2⟩
 case round =>
  clear hbw r1 r2;obtain ⟨k,hk,rfl,hbw,r1,r2⟩:=hrel;obtain ⟨y0,y1,y2,y3,y4,y5⟩:=r2.n6
  by_cases hlt:k < x.length
  ·obtain ⟨r,hr0⟩:∃ r,x[k]?=some r:=⟨x[k],gE hlt⟩;obtain ⟨b1,off1,ng1,ao1,n1,cap1,nh1,ap1,m1,caq1,e1,FA,hv1⟩:=(ux.mono hbw) k (some r) (by rw [List.getElem?_map,hr0]; rfl);have HV1:Hid (RatV wr _ r):=hii hv1;have hEr:=hE.mono hbw;clear hr0 hv1;subst e1;obtain ⟨f0,f1,f2,f3,_,_,_,_⟩:=id FA;go_wp2_with fail;(with_reducible refine (rValid_true _ r wr HV1.out hEr).mono ?_);rintro e w2 ⟨rfl,hb⟩;have hbw:=bu hbw hb;have r1:=r1.below hb;have r2:=r2.below hb;clear hb f0 f1 f2 f3 hEr y0 y1 y2 y3 y4 y5;go_wp2;go_roundw
   case rel => exact ⟨k + 1,by omega,by go_num,hbw,r1,r2⟩
   case measure => simp [intOf]; omega
  ·clear hk;obtain ⟨s1,hDs1,hCs1,hz1⟩:=hV1.out;obtain ⟨s2,hDs2,hCs2,hz2⟩:=hV2.out;have HD1:=hii hDs1;have HC1:=hii hCs1;have HZ1:=hii hz1;have HD2:=hii hDs2;have HC2:=hii hCs2;have HZ2:=hii hz2;have HCx:Hid (C.length=x.length):=hii HL.out.2.2.2.2.symm;have HBy:Hid (b.length=y.length):=hii HL.out.2.1.symm;clear hDs1 hCs1 hz1 hDs2 hCs2 hz2;go_upto_region 8 with fail;clear y0 y1 y2 y3 y4 y5;have uA1:=uA.mono hbw;have uB1:=uB.mono hbw;have uC1:=uC.mono hbw;have ux1:=ux.mono hbw;have uy1:=uy.mono hbw;have hE1:=hE.mono hbw;have hv1:=hv.mono hbw;refine wp_region_vals (wx:=wr) [(λ _ v => v=.agg #[.slice aA A.length cA,.slice aB b.length cB,.slice aC C.length cC]),(λ _ v => v=.pointer (some ⟨g2,4,none⟩)),(λ _ v => v=.slice ax x.length cx),(λ _ v => v=.bool true),(λ _ v => v=.bool true),(λ _ v => v=.pointer (some ⟨g,2,none⟩)),(λ _ v => v=.slice aC C.length cC),(λ _ v => v=.pointer (some ⟨g2,4,none⟩)),(λ _ v => v=.slice ax x.length cx),(λ W v => RatV W v s1),(λ _ v => v=.pointer (some ⟨g2,0,none⟩)),(λ _ v => v=.agg #[.bool ng3,.slice ao3 n3 cap3,.bool nh3,.slice ap3 m3 caq3]),(λ _ v => v=.int .i64 0),(λ _ v => v=.bool true),(λ _ v => v=.bool true),(λ _ v => v=.bool true),(λ _ v => v=.pointer (some ⟨g,1,none⟩)),(λ _ v => v=.slice aB b.length cB),(λ _ v => v=.pointer (some ⟨g2,5,none⟩)),(λ _ v => v=.slice ay y.length cy),(λ W v => RatV W v s2),(λ _ v => v=.pointer (some ⟨g2,0,none⟩)),(λ _ v => v=.agg #[.bool ng3,.slice ao3 n3 cap3,.bool nh3,.slice ap3 m3 caq3]),(λ _ v => v=.int .i64 0),(λ _ v => v=.bool true),(λ _ v => v=.bool true),(λ _ v => v=.bool true)] [40,41,42,43,44,45,46,47,48,49,50,51,52,53,54,55,56,57,58,59,60,61,62,63,64,65,4] (by kernel_rfl) (by kernel_rfl) (by kernel_rfl) (of_decide_eq_true (by kernel_rfl)) br ⟨sV _,sV _,sV _,sV _,sV _,sV _,sV _,sV _,sV _,λ _ _ _ h hb => h.mono hb,sV _,sV _,sV _,sV _,sV _,sV _,sV _,sV _,sV _,sV _,λ _ _ _ h hb => h.mono hb,sV _,sV _,sV _,sV _,sV _,sV _,trivial⟩ ⟨?s0,?s1,?s2,?s3,?s4,?s5,?s6,?s7,?s8,?s9,?s10,?s11,?s12,?s13,?s14,?s15,?s16,?s17,?s18,?s19,?s20,?s21,?s22,?s23,?s24,?s25,?s26,trivial⟩ ?he
   case' s0 | s1 | s2 | s3 | s4 | s5 | s6 | s7 | s8 | s9 | s10 | s11 | s12 | s13 | s14 | s15 | s16 | s17 | s18 | s19 | s20 | s21 | s22 | s23 | s24 | s25 | s26 =>
    rintro T W hb hA K hK
   case' s0 =>
    simp only [ovr,Act.put,sT,sZ,sS] at hK |-;have HK:=hii hK;clear hK hA;obtain ⟨x0,x1,x2⟩:=(r1.below hb).n3
   case' s2 =>
    have e1:T 41=.pointer (some ⟨g2,4,none⟩):=hA.1;simp only [ovr,Act.put,sT,sZ,sS,e1] at hK |-;have HK:=hii hK;clear hK hA;obtain ⟨y0,y1,y2,y3,y4,y5⟩:=(r2.below hb).n6
   case' s6 =>
    have e5:T 45=.pointer (some ⟨g,2,none⟩):=hA.1;have e4:T 44=.bool true:=hA.2.1;simp only [ovr,Act.put,sT,sZ,sS,e5,e4] at hK |-;have HK:=hii hK;clear hK hA;obtain ⟨x0,x1,x2⟩:=(r1.below hb).n3
   case' s8 =>
    have e7:T 47=.pointer (some ⟨g2,4,none⟩):=hA.1;have e4:T 44=.bool true:=hA.2.1;simp only [ovr,Act.put,sT,sZ,sS,e7,e4] at hK |-;have HK:=hii hK;clear hK hA;obtain ⟨y0,y1,y2,y3,y4,y5⟩:=(r2.below hb).n6
   case' s11 =>
    have e10:T 50=.pointer (some ⟨g2,0,none⟩):=hA.1;have e4:T 44=.bool true:=hA.2.1;simp only [ovr,Act.put,sT,sZ,sS,e10,e4] at hK |-;have HK:=hii hK;clear hK hA;obtain ⟨y0,y1,y2,y3,y4,y5⟩:=(r2.below hb).n6
   case' s17 =>
    have e16:T 56=.pointer (some ⟨g,1,none⟩):=hA.1;have e15:T 55=.bool true:=hA.2.1;simp only [ovr,Act.put,sT,sZ,sS,e16,e15] at hK |-;have HK:=hii hK;clear hK hA;obtain ⟨x0,x1,x2⟩:=(r1.below hb).n3
   case' s19 =>
    have e18:T 58=.pointer (some ⟨g2,5,none⟩):=hA.1;have e15:T 55=.bool true:=hA.2.1;simp only [ovr,Act.put,sT,sZ,sS,e18,e15] at hK |-;have HK:=hii hK;clear hK hA;obtain ⟨y0,y1,y2,y3,y4,y5⟩:=(r2.below hb).n6
   case' s22 =>
    have e21:T 61=.pointer (some ⟨g2,0,none⟩):=hA.1;have e15:T 55=.bool true:=hA.2.1;simp only [ovr,Act.put,sT,sZ,sS,e21,e15] at hK |-;have HK:=hii hK;clear hK hA;obtain ⟨y0,y1,y2,y3,y4,y5⟩:=(r2.below hb).n6
   case' s1 =>
    simp only [ovr,Act.put,sT,sZ,sS] at hK |-
   case' s4 =>
    have e3:T 43=.bool true:=hA.1;simp only [ovr,Act.put,sT,sZ,sS,e3] at hK |-
   case' s5 | s7 | s10 =>
    have e4:T 44=.bool true:=hA.1;simp only [ovr,Act.put,sT,sZ,sS,e4] at hK |-
   case' s13 =>
    have e12:T 52=.int .i64 0:=hA.1;have e4:T 44=.bool true:=hA.2.1;simp only [ovr,Act.put,sT,sZ,sS,e12,e4] at hK |-
   case' s14 =>
    have e4:T 44=.bool true:=hA.1;have e13:T 53=.bool true:=hA.2.1;simp only [ovr,Act.put,sT,sZ,sS,e4,e13] at hK |-
   case' s15 =>
    have e14:T 54=.bool true:=hA.1;simp only [ovr,Act.put,sT,sZ,sS,e14] at hK |-
   case' s16 | s18 | s21 =>
    have e15:T 55=.bool true:=hA.1;simp only [ovr,Act.put,sT,sZ,sS,e15] at hK |-
   case' s24 =>
    have e23:T 63=.int .i64 0:=hA.1;have e15:T 55=.bool true:=hA.2.1;simp only [ovr,Act.put,sT,sZ,sS,e23,e15] at hK |-
   case' s25 =>
    have e15:T 55=.bool true:=hA.1;have e24:T 64=.bool true:=hA.2.1;simp only [ovr,Act.put,sT,sZ,sS,e15,e24] at hK |-
   case' s26 =>
    have e25:T 65=.bool true:=hA.1;simp only [ovr,Act.put,sT,sZ,sS,e25] at hK |-
   case s0 | s2 | s6 | s8 | s11 | s17 | s19 | s22 =>
    refine wO rfl (by rfl) ?_;go_simp;exact HK.out _ _ br (rfl)
   case s1 | s4 | s5 | s7 | s10 | s13 | s14 | s15 | s16 | s18 | s21 | s24 | s25 | s26 =>
    have HK:=hii hK;clear hK hA;refine wO rfl (by rfl) ?_;go_simp;exact HK.out _ _ br (rfl)
   case s3 =>
    have e0:T 40=.agg #[.slice aA A.length cA,.slice aB b.length cB,.slice aC C.length cC]:=hA.1;have e2:T 42=.slice ax x.length cx:=hA.2.1;simp only [ovr,Act.put,sT,sZ,sS,e0,e2] at hK |-;have HK:=hii hK;clear hK hA;refine wO rfl (by rfl) ?_;go_simp;(with_reducible refine (HFI.out W (uA1.mono hb) (uB1.mono hb) (uC1.mono hb) (ux1.mono hb) (hE1.mono hb)).mono ?_);rintro e w1 ⟨rfl,hb1⟩;rw [hF.out]
    try dsimp only
    exact HK.out _ _ hb1 (rfl)
   case s9 =>
    have e6:T 46=.slice aC C.length cC:=hA.1;have e8:T 48=.slice ax x.length cx:=hA.2.1;have e4:T 44=.bool true:=hA.2.2.1;simp only [ovr,Act.put,sT,sZ,sS,e6,e8,e4] at hK |-;have HK:=hii hK;clear hK hA;refine wO rfl (by rfl) ?_;go_simp;(with_reducible refine (rdot13 C x s1 aC ax cC cx W (by have:=HL.out; omega) HCx.out (uC1.mono hb) (ux1.mono hb) HD1 (hE1.mono hb)).mono ?_);rintro e w1 ⟨hz,hb1⟩;obtain ⟨ng5,ao5,n5,cap5,nh5,ap5,m5,caq5,rfl,hV⟩:=hz.rat
    try dsimp only
    exact HK.out _ _ hb1 (hV)
   case s12 =>
    have r9:((λ W v => RatV W v s1):World->Value->Prop) W (T 49):=hA.1;have e11:T 51=.agg #[.bool ng3,.slice ao3 n3 cap3,.bool nh3,.slice ap3 m3 caq3]:=hA.2.1;have e4:T 44=.bool true:=hA.2.2.2.1;simp only [ovr,Act.put,sT,sZ,sS,e11,e4] at hK |-;have HK:=hii hK;clear hK hA;have r9:RatV W _ s1:=r9;obtain ⟨ng6,ao6,n6,cap6,nh6,ap6,m6,caq6,e9⟩:=r9.parts;rw [e9] at r9;simp only [e9] at HK |-;refine wO rfl (by rfl) ?_;go_simp;(with_reducible refine (rcmp13 _ _ s1 val 0 W r9 (hv1.mono hb) HC1 HZ1 (hE1.mono hb)).mono ?_);rintro e w1 ⟨rfl,hb1⟩
    try dsimp only
    exact HK.out _ _ hb1 (rfl)
   case s20 =>
    have e17:T 57=.slice aB b.length cB:=hA.1;have e19:T 59=.slice ay y.length cy:=hA.2.1;have e15:T 55=.bool true:=hA.2.2.1;simp only [ovr,Act.put,sT,sZ,sS,e17,e19,e15] at hK |-;have HK:=hii hK;clear hK hA;refine wO rfl (by rfl) ?_;go_simp;(with_reducible refine (rdot13 b y s2 aB ay cB cy W (by have:=HL.out; omega) HBy.out (uB1.mono hb) (uy1.mono hb) HD2 (hE1.mono hb)).mono ?_);rintro e w1 ⟨hz,hb1⟩;obtain ⟨ng5,ao5,n5,cap5,nh5,ap5,m5,caq5,rfl,hV⟩:=hz.rat
    try dsimp only
    exact HK.out _ _ hb1 (hV)
   case s23 =>
    have r20:((λ W v => RatV W v s2):World->Value->Prop) W (T 60):=hA.1;have e22:T 62=.agg #[.bool ng3,.slice ao3 n3 cap3,.bool nh3,.slice ap3 m3 caq3]:=hA.2.1;have e15:T 55=.bool true:=hA.2.2.2.1;simp only [ovr,Act.put,sT,sZ,sS,e22,e15] at hK |-;have HK:=hii hK;clear hK hA;have r20:RatV W _ s2:=r20;obtain ⟨ng6,ao6,n6,cap6,nh6,ap6,m6,caq6,e20⟩:=r20.parts;rw [e20] at r20;simp only [e20] at HK |-;refine wO rfl (by rfl) ?_;go_simp;(with_reducible refine (rcmp13 _ _ s2 val 0 W r20 (hv1.mono hb) HC2 HZ2 (hE1.mono hb)).mono ?_);rintro e w1 ⟨rfl,hb1⟩
    try dsimp only
    exact HK.out _ _ hb1 (rfl)
   case he =>
    rintro T W hb hA;have f26:T 4=.bool true:=hA.at 26 (by decide);have hbw:=bu hbw hb;simp only [ovr,sT,sZ,sS,f26];clear hA f26 hb;go_wp2;go_ret;exact ⟨rfl,hbw⟩
def UJ (w:World) (ao:Option Addr) (l:List (Int × Int)):Prop:=∀ (k:Nat) (p:Int × Int),l[k]?=some p->∃ b off ng1 ao1 n1 cap1 nh1 ap1 m1 caq1,ao=some ⟨b,off,none⟩/\Four w b (off + k * 4) (.bool ng1) (.slice ao1 n1 cap1) (.bool nh1) (.slice ap1 m1 caq1)/\IntV w (.agg #[.bool ng1,.slice ao1 n1 cap1]) p.1/\IntV w (.agg #[.bool nh1,.slice ap1 m1 caq1]) p.2
theorem UJ.mono {w w':World} {ao:Option Addr} {l:List (Int × Int)} (h:UJ w ao l) (hb:Below w.heap.size w w'):UJ w' ao l:=by
 intro k p hk;obtain ⟨b,off,ng1,ao1,n1,cap1,nh1,ap1,m1,caq1,e,F,h1,h2⟩:=h k p hk;exact ⟨b,off,ng1,ao1,n1,cap1,nh1,ap1,m1,caq1,e,F.mono hb,h1.mono hb,h2.mono hb⟩
theorem UJ.of {w:World} {ao:Option Addr} {l:List Rat} (h:UQ w ao (l.map some)):UJ w ao (l.map λ r => (r.num,(r.den:Int))):=by
 intro k p hk;rw [List.getElem?_map] at hk
 cases hr:l[k]? with
 | none => rw [hr] at hk; cases hk
 | some r =>
  rw [hr] at hk
  cases hk
  obtain ⟨b1,off1,ng1,ao1,n1,cap1,nh1,ap1,m1,caq1,e1,FA,hv⟩:=h k (some r) (by rw [List.getElem?_map,hr]; rfl);obtain ⟨_,_,_,_,_,_,_,_,e2,hv1,hv2⟩:=(hv:RatV w _ r)
  cases e2
  exact ⟨b1,off1,ng1,ao1,n1,cap1,nh1,ap1,m1,caq1,e1,FA,hv1,hv2⟩
theorem rlists13 (l:List (Int × Int)) (hl:l.length<=1000000) (ax ay:Option Addr) (cx cy:Nat) (w:World) (ux:UJ w ax l) (uy:UJ w ay l) :
  Calls Tryz.prog 20 #[.slice ax l.length cx,.slice ay l.length cy] w λ e w' => e=.returned (.bool true)/\Below w.heap.size w w':=by
 have hbw:=Below.refl w.heap.size w;go_enter Tryz.func20,Tryz.ntmps20;go_wp2_with fail;go_loopw [5] (λ s wr => ∃ k:Nat,k<=l.length/\s=.int .i64 (k:Nat)/\Below w.heap.size w wr) (λ s _ => l.length - (intOf s).toNat)
 case atStart => exact ⟨0,Nat.zero_le _,rfl,hbw⟩
 case round =>
  clear hbw;obtain ⟨k,hk,rfl,hbw⟩:=hrel
  by_cases hlt:k < l.length
  ·obtain ⟨p,hp⟩:∃ r,l[k]?=some r:=⟨l[k],gE hlt⟩;obtain ⟨b1,off1,ng1,ao1,n1,cap1,nh1,ap1,m1,caq1,e1,FA,hv1,hv2⟩:=(ux.mono hbw) k p hp;obtain ⟨b2,off2,ng2,ao2,n2,cap2,nh2,ap2,m2,caq2,e2,FB,hu1,hu2⟩:=(uy.mono hbw) k p hp;have E1:Hid (decide (p.1=p.1)=true):=hii (by simp);have E2:Hid (decide (p.2=p.2)=true):=hii (by simp);clear hp;subst e1;subst e2;go_upto_region 6 with fail;refine wp_region_vals (wx:=wr) [(λ _ v => v=.slice (some ⟨b1,off1,none⟩) l.length cx),(λ _ v => v=.int .i64 (k:Nat)),(λ _ v => v=.pointer (some ⟨b1,off1 + k * 4,none⟩)),(λ _ v => v=.pointer (some ⟨b1,off1 + k * 4,none⟩)),(λ _ v => v=.agg #[.bool ng1,.slice ao1 n1 cap1]),(λ _ v => v=.slice (some ⟨b2,off2,none⟩) l.length cy),(λ _ v => v=.int .i64 (k:Nat)),(λ _ v => v=.pointer (some ⟨b2,off2 + k * 4,none⟩)),(λ _ v => v=.pointer (some ⟨b2,off2 + k * 4,none⟩)),(λ _ v => v=.agg #[.bool ng2,.slice ao2 n2 cap2]),(λ _ v => v=.bool true),(λ _ v => v=.bool false),(λ _ v => v=.bool false),(λ _ v => v=.slice (some ⟨b1,off1,none⟩) l.length cx),(λ _ v => v=.int .i64 (k:Nat)),(λ _ v => v=.pointer (some ⟨b1,off1 + k * 4,none⟩)),(λ _ v => v=.pointer (some ⟨b1,off1 + k * 4 + 2,none⟩)),(λ _ v => v=.agg #[.bool nh1,.slice ap1 m1 caq1]),(λ _ v => v=.slice (some ⟨b2,off2,none⟩) l.length cy),(λ _ v => v=.int .i64 (k:Nat)),(λ _ v => v=.pointer (some ⟨b2,off2 + k * 4,none⟩)),(λ _ v => v=.pointer (some ⟨b2,off2 + k * 4 + 2,none⟩)),(λ _ v => v=.agg #[.bool nh2,.slice ap2 m2 caq2]),(λ _ v => v=.bool true),(λ _ v => v=.bool false),(λ _ v => v=.bool false)] [17,18,19,20,21,22,23,24,25,26,27,28,29,30,31,32,33,34,35,36,37,38,39,40,41,42] (by kernel_rfl) (by kernel_rfl) (by kernel_rfl) (of_decide_eq_true (by kernel_rfl)) br ⟨sV _,sV _,sV _,sV _,sV _,sV _,sV _,sV _,sV _,sV _,sV _,sV _,sV _,sV _,sV _,sV _,sV _,sV _,sV _,sV _,sV _,sV _,sV _,sV _,sV _,sV _,trivial⟩ ⟨?s0,?s1,?s2,?s3,?s4,?s5,?s6,?s7,?s8,?s9,?s10,?s11,?s12,?s13,?s14,?s15,?s16,?s17,?s18,?s19,?s20,?s21,?s22,?s23,?s24,?s25,trivial⟩ ?he
   case' s0 | s1 | s2 | s3 | s4 | s5 | s6 | s7 | s8 | s9 | s10 | s11 | s12 | s13 | s14 | s15 | s16 | s17 | s18 | s19 | s20 | s21 | s22 | s23 | s24 | s25 =>
    rintro T W hb hA K hK
   case' s0 | s1 | s5 | s6 =>
    simp only [ovr,Act.put,sT,sZ,sS] at hK |-
   case' s2 =>
    have e0:T 17=.slice (some ⟨b1,off1,none⟩) l.length cx:=hA.1;have e1:T 18=.int .i64 (k:Nat):=hA.2.1;simp only [ovr,Act.put,sT,sZ,sS,e0,e1] at hK |-
   case' s3 =>
    have e2:T 19=.pointer (some ⟨b1,off1 + k * 4,none⟩):=hA.1;simp only [ovr,Act.put,sT,sZ,sS,e2] at hK |-
   case' s7 =>
    have e5:T 22=.slice (some ⟨b2,off2,none⟩) l.length cy:=hA.1;have e6:T 23=.int .i64 (k:Nat):=hA.2.1;simp only [ovr,Act.put,sT,sZ,sS,e5,e6] at hK |-
   case' s8 =>
    have e7:T 24=.pointer (some ⟨b2,off2 + k * 4,none⟩):=hA.1;simp only [ovr,Act.put,sT,sZ,sS,e7] at hK |-
   case' s11 =>
    have e10:T 27=.bool true:=hA.1;simp only [ovr,Act.put,sT,sZ,sS,e10] at hK |-
   case' s12 =>
    have e11:T 28=.bool false:=hA.1;simp only [ovr,Act.put,sT,sZ,sS,e11] at hK |-
   case' s13 | s14 | s18 | s19 =>
    have e12:T 29=.bool false:=hA.1;simp only [ovr,Act.put,sT,sZ,sS,e12] at hK |-
   case' s15 =>
    have e13:T 30=.slice (some ⟨b1,off1,none⟩) l.length cx:=hA.1;have e14:T 31=.int .i64 (k:Nat):=hA.2.1;have e12:T 29=.bool false:=hA.2.2.1;simp only [ovr,Act.put,sT,sZ,sS,e13,e14,e12] at hK |-
   case' s16 =>
    have e15:T 32=.pointer (some ⟨b1,off1 + k * 4,none⟩):=hA.1;have e12:T 29=.bool false:=hA.2.1;simp only [ovr,Act.put,sT,sZ,sS,e15,e12] at hK |-
   case' s20 =>
    have e18:T 35=.slice (some ⟨b2,off2,none⟩) l.length cy:=hA.1;have e19:T 36=.int .i64 (k:Nat):=hA.2.1;have e12:T 29=.bool false:=hA.2.2.1;simp only [ovr,Act.put,sT,sZ,sS,e18,e19,e12] at hK |-
   case' s21 =>
    have e20:T 37=.pointer (some ⟨b2,off2 + k * 4,none⟩):=hA.1;have e12:T 29=.bool false:=hA.2.1;simp only [ovr,Act.put,sT,sZ,sS,e20,e12] at hK |-
   case' s24 =>
    have e23:T 40=.bool true:=hA.1;have e12:T 29=.bool false:=hA.2.1;simp only [ovr,Act.put,sT,sZ,sS,e23,e12] at hK |-
   case' s25 =>
    have e12:T 29=.bool false:=hA.1;have e24:T 41=.bool false:=hA.2.1;simp only [ovr,Act.put,sT,sZ,sS,e12,e24] at hK |-
   case' s4 =>
    have e3:T 20=.pointer (some ⟨b1,off1 + k * 4,none⟩):=hA.1;simp only [ovr,Act.put,sT,sZ,sS,e3] at hK |-;have HK:=hii hK;clear hK hA;obtain ⟨f0,f1,f2,f3,_,_,_,_⟩:=FA.mono hb
   case' s9 =>
    have e8:T 25=.pointer (some ⟨b2,off2 + k * 4,none⟩):=hA.1;simp only [ovr,Act.put,sT,sZ,sS,e8] at hK |-;have HK:=hii hK;clear hK hA;obtain ⟨f0,f1,f2,f3,_,_,_,_⟩:=FB.mono hb
   case' s17 =>
    have e16:T 33=.pointer (some ⟨b1,off1 + k * 4 + 2,none⟩):=hA.1;have e12:T 29=.bool false:=hA.2.1;simp only [ovr,Act.put,sT,sZ,sS,e16,e12] at hK |-;have HK:=hii hK;clear hK hA;obtain ⟨f0,f1,f2,f3,_,_,_,_⟩:=FA.mono hb
   case' s22 =>
    have e21:T 38=.pointer (some ⟨b2,off2 + k * 4 + 2,none⟩):=hA.1;have e12:T 29=.bool false:=hA.2.1;simp only [ovr,Act.put,sT,sZ,sS,e21,e12] at hK |-;have HK:=hii hK;clear hK hA;obtain ⟨f0,f1,f2,f3,_,_,_,_⟩:=FB.mono hb
   case s0 | s1 | s2 | s3 | s5 | s6 | s7 | s8 | s11 | s12 | s13 | s14 | s15 | s16 | s18 | s19 | s20 | s21 | s24 | s25 =>
    have HK:=hii hK;clear hK hA;refine wO rfl (by rfl) ?_;go_simp;exact HK.out _ _ br (rfl)
   case s4 | s9 | s17 | s22 =>
    refine wO rfl (by rfl) ?_;go_simp;exact HK.out _ _ br (rfl)
   case s10 =>
    have e4:T 21=.agg #[.bool ng1,.slice ao1 n1 cap1]:=hA.1;have e9:T 26=.agg #[.bool ng2,.slice ao2 n2 cap2]:=hA.2.1;simp only [ovr,Act.put,sT,sZ,sS,e4,e9] at hK |-;have HK:=hii hK;clear hK hA;refine wO rfl (by rfl) ?_;go_simp;(with_reducible refine (eqV_any _ _ p.1 p.1 W (hv1.mono hb) (hu1.mono hb)).mono ?_);rintro e w1 ⟨rfl,hb1⟩;rw [E1.out]
    try dsimp only
    exact HK.out _ _ hb1 (rfl)
   case s23 =>
    have e17:T 34=.agg #[.bool nh1,.slice ap1 m1 caq1]:=hA.1;have e22:T 39=.agg #[.bool nh2,.slice ap2 m2 caq2]:=hA.2.1;have e12:T 29=.bool false:=hA.2.2.1;simp only [ovr,Act.put,sT,sZ,sS,e17,e22,e12] at hK |-;have HK:=hii hK;clear hK hA;refine wO rfl (by rfl) ?_;go_simp;(with_reducible refine (eqV_any _ _ p.2 p.2 W (hv2.mono hb) (hu2.mono hb)).mono ?_);rintro e w1 ⟨rfl,hb1⟩;rw [E2.out]
    try dsimp only
    exact HK.out _ _ hb1 (rfl)
   case he =>
    rintro T W hb hA;have f25:T 42=.bool false:=hA.at 25 (by decide);have hbw:=bu hbw hb;simp only [ovr,sT,sZ,sS,f25];clear hA f25 hb FA FB hv1 hv2 hu1 hu2;obtain ⟨w3,rfl⟩:=exi W;go_wp2;go_roundw
    case rel => exact ⟨k + 1,by omega,by go_num,hbw⟩
    case measure => simp [intOf]; omega
  ·clear hk;go_wp2;go_ret;exact ⟨rfl,hbw⟩
end Go.Proofs.YtileholjbdhmjaaGreatDoor
