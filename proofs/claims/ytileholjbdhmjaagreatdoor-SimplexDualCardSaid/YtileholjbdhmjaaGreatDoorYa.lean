/-
  The reference of chapter 13: Neg, Equal.
-/
import Derived.Test.YtileholjbdhmjaaGreatDoorXRd
import Derived.Test.YtileholjbdhmjaaGreatDoorTa
import Derived.Test.YtileholjbdhmjaaGreatDoorFlowS
set_option linter.unusedVariables false
set_option linter.unusedSimpArgs false
set_option maxRecDepth 100000
set_option maxHeartbeats 25600000
namespace Go.Proofs.YtileholjbdhmjaaGreatDoor
open Go.RowKit
theorem IntV.got2 {w:World} {v:Value} {z:Int} (h:IntV w v z):∃ (ng:Bool) (ao:Option Addr) (n cap:Nat),v=.agg #[.bool ng,.slice ao n cap]:=by
 obtain ⟨_,_,_,_,e,_⟩:=h;exact ⟨_,_,_,_,e⟩
def NegS (W:World) (g:Nat) (r:Rat):Prop:=∃ (ng:Bool) (ao:Option Addr) (n cap:Nat) (nh:Bool) (ap:Option Addr) (m caq:Nat),Row W g 38 [.bool ng,.slice ao n cap,.bool nh,.slice ap m caq]∧RatV W (.agg #[.bool ng,.slice ao n cap,.bool nh,.slice ap m caq]) r
theorem NegS.mono {W W':World} {g:Nat} {r:Rat} (h:NegS W g r) (hb:Below W.heap.size W W'):NegS W' g r:=by
 obtain ⟨ng3,ao3,n3,cap3,nh3,ap3,m3,caq3,h1,h2⟩:=h;exact ⟨ng3,ao3,n3,cap3,nh3,ap3,m3,caq3,h1.below hb,h2.mono hb⟩
theorem NegS.mk {W:World} {g:Nat} {r:Rat} {x0 x1 x2 x3:Value} {ng:Bool} {ao:Option Addr} {n cap:Nat} {nh:Bool} {ap:Option Addr} {m caq:Nat} (h:Row W g 38 [x0,x1,x2,x3]) (hn:∀ u∈[x0,x1,x2,x3],NoLimb u) (hv:RatV W (.agg #[.bool ng,.slice ao n cap,.bool nh,.slice ap m caq]) r) :
  NegS ((((W.setCell ⟨g,0,none⟩ (.bool ng)).setCell ⟨g,1,none⟩ (.slice ao n cap)).setCell ⟨g,2,none⟩ (.bool nh)).setCell ⟨g,3,none⟩ (.slice ap m caq)) g r :=
 ⟨_,_,_,_,_,_,_,_,(((h.set 0 (.bool ng)).set 1 (.slice ao n cap)).set 2 (.bool nh)).set 3 (.slice ap m caq),hv.keptU (((((Kept.refl W:Kept (fun k => k=g) W W)).setCell (p:=⟨g,0,none⟩) rfl _).setCell (p:=⟨g,1,none⟩) rfl _).setCell (p:=⟨g,2,none⟩) rfl _ |>.setCell (p:=⟨g,3,none⟩) rfl _) (h.noU hn)⟩
theorem rneg13_any (v:Value) (r:Rat) (w:World) (h:RatV w v r) (hE:Env w) :
  Calls Tryz.prog 62 #[v] w fun e w' => GotR w' (-r) e∧Below w.heap.size w w':=by
 have hbw:=Below.refl w.heap.size w;obtain ⟨ng1,ao1,n1,cap1,ng2,ao2,n2,cap2,rfl,h1,h2⟩:=h;have HV1:=hii h1;have HV2:=hii h2;clear h1 h2;go_enter Tryz.func62,Tryz.ntmps62;go_upto_region 1 with fail;obtain ⟨wx,hwx,r1,r2,hb⟩:=two_rows w 38 38 [.bool ng1,.slice ao1 n1 cap1,.bool ng2,.slice ao2 n2 cap2] [.bool false,.slice none 0 0,.bool false,.slice none 0 0];simp only [List.toArray] at hwx;rw [← hwx];clear hwx;obtain ⟨g2,hg2⟩:∃ g2,g2=w.heap.size + 1:=⟨_,rfl⟩;have Hg2:Hid (w.heap.size + 1=g2):=hii hg2.symm;rw [← hg2] at r2 ⊢;clear hg2;obtain ⟨g1,hg1⟩:∃ g1,g1=w.heap.size:=⟨_,rfl⟩;have Hg1:Hid (w.heap.size=g1):=hii hg1.symm;rw [← hg1] at r1 ⊢;clear hg1;obtain ⟨w0,rfl⟩:∃ w0:World,w0=wx:=⟨_,rfl⟩;have HV1:=hii (HV1.out.mono hb);have HV2:=hii (HV2.out.mono hb);have hbw:=bu hbw hb;clear hb;have Hr2:=hii r2;clear r2;refine wp_region_seq (wx:=w) [(fun _ v => v=.pointer (some ⟨g1,0,none⟩)),(fun _ v => v=.agg #[.bool ng1,.slice ao1 n1 cap1]),(fun W v => IntV W v (-r.num)),(fun _ v => v=.pointer (some ⟨g1,2,none⟩)),(fun _ v => v=.agg #[.bool ng2,.slice ao2 n2 cap2]),(fun W v => RatV W v (-r)),(fun _ _ => True)] [some 3,some 4,some 5,some 6,some 7,some 8,none] [3,4,5,6,7,8] [6] [[0],[0],[0],[0],[0],[0],[0]] [none,none,some 0,none,none,some 0,none] (fun p T W => match p with | 0 => Below w0.heap.size w0 W | _ + 1 => NegS W g2 (-r)) (by kernel_rfl) (by kernel_rfl) (by kernel_rfl) (by kernel_rfl) (of_decide_eq_true (by kernel_rfl)) (of_decide_eq_true (by kernel_rfl)) (by kernel_rfl) (by kernel_rfl) (fun T => br.drew) (fun p T W W' h hb => match p,h with | 0,h => bu h hb | _ + 1,h => h.mono hb) (fun p T T' W hT h => match p,hT,h with | 0,_,h => h | _ + 1,_,h => h) (hbw) ⟨stayS_val _ _,stayS_val _ _,(fun _ _ _ h hb => h.mono hb),stayS_val _ _,stayS_val _ _,(fun _ _ _ h hb => h.mono hb),(fun _ _ _ h _ => h),trivial⟩ ⟨?s0,?s1,?s2,?s3,?s4,?s5,?s6,trivial⟩ ?he
 case s0 | s3 =>
  rintro T W p hb hp hS hA K hK;clear hS;simp only [ovr,Act.put,List.setIfInBounds_toArray,List.set_cons_zero,List.set_cons_succ] at hK ⊢;have HK:=hii hK;clear hK hA;refine wO rfl (by rfl) ?_;go_simp;exact HK.out _ _ ⟨fun _ => br,fun h => absurd h (seq_ne (by decide) (by decide))⟩ (rfl)
 case s1 =>
  rintro T W p hb hp hS hA K hK;obtain rfl:p=0:=by simpa using hp
  have hS:Below w0.heap.size w0 W:=hS;have e0:T 3=.pointer (some ⟨g1,0,none⟩):=hA.1 rfl;obtain ⟨c0,c1,c2,c3⟩:=(r1.below hS).n4;simp only [ovr,Act.put,List.setIfInBounds_toArray,List.set_cons_zero,List.set_cons_succ,e0] at hK ⊢;have HK:=hii hK;clear hK hA;refine wO rfl (by rfl) ?_;go_simp;exact HK.out _ _ ⟨fun _ => br,fun h => absurd h (seq_ne (by decide) (by decide))⟩ (rfl)
 case s2 =>
  rintro T W p hb hp hS hA K hK;obtain rfl:p=0:=by simpa using hp
  have hS:Below w0.heap.size w0 W:=hS;have e1:T 4=.agg #[.bool ng1,.slice ao1 n1 cap1]:=hA.1 rfl;simp only [ovr,Act.put,List.setIfInBounds_toArray,List.set_cons_zero,List.set_cons_succ,e1] at hK ⊢;have HK:=hii hK;clear hK hA;refine wO rfl (by rfl) ?_;go_simp;(with_reducible refine (neg_any _ r.num W (HV1.out.mono hS)).mono ?_);rintro e w1 ⟨⟨ng3,ao3,n3,cap3,rfl,h3⟩,hb1⟩
  try dsimp only
  exact HK.out _ _ ⟨fun _ => hb1,fun h => absurd h (seq_ne (by decide) (by decide))⟩ (h3.out)
 case s4 =>
  rintro T W p hb hp hS hA K hK;obtain rfl:p=0:=by simpa using hp
  have hS:Below w0.heap.size w0 W:=hS;have e3:T 6=.pointer (some ⟨g1,2,none⟩):=hA.1 rfl;obtain ⟨c0,c1,c2,c3⟩:=(r1.below hS).n4;simp only [ovr,Act.put,List.setIfInBounds_toArray,List.set_cons_zero,List.set_cons_succ,e3] at hK ⊢;have HK:=hii hK;clear hK hA;refine wO rfl (by rfl) ?_;go_simp;exact HK.out _ _ ⟨fun _ => br,fun h => absurd h (seq_ne (by decide) (by decide))⟩ (rfl)
 case s5 =>
  rintro T W p hb hp hS hA K hK;obtain rfl:p=0:=by simpa using hp
  have hS:Below w0.heap.size w0 W:=hS;have r2:((fun W v => IntV W v (-r.num)):World→Value→Prop) W (T 5):=hA.1 (by decide);have e4:T 7=.agg #[.bool ng2,.slice ao2 n2 cap2]:=hA.2.1 rfl;have r2:IntV W _ (-r.num):=r2;obtain ⟨ng3,ao3,n3,cap3,e2⟩:=r2.got2;rw [e2] at r2;simp only [ovr,Act.put,List.setIfInBounds_toArray,List.set_cons_zero,List.set_cons_succ,e4,e2] at hK ⊢;have HK:=hii hK;clear hK hA;refine wO rfl (by rfl) ?_;go_simp;exact HK.out _ _ ⟨fun _ => br,fun h => absurd h (seq_ne (by decide) (by decide))⟩ (RatV.mk' (hii (by rw [Rat.neg_num]; exact r2)) (hii (by rw [Rat.neg_den]; exact HV2.out.mono hS)))
 case s6 =>
  rintro T W p hb hp hS hA K hK;obtain rfl:p=0:=by simpa using hp
  have hS:Below w0.heap.size w0 W:=hS;have r5:((fun W v => RatV W v (-r)):World→Value→Prop) W (T 8):=hA.1 (by decide);have r5:RatV W _ (-r):=r5;obtain ⟨ng3,ao3,n3,cap3,nh3,ap3,m3,caq3,e5⟩:=r5.parts;rw [e5] at r5;have R2:=Hr2.out.below hS;obtain ⟨d0,d1,d2,d3⟩:=R2.n4;have f:=R2.free;have hle:w.heap.size≤g2:=by have:=Hg2.out; omega
  simp only [ovr,Act.put,List.setIfInBounds_toArray,List.set_cons_zero,List.set_cons_succ,e5] at hK ⊢;have HK:=hii hK;clear hK hA;refine wO rfl (by rfl) ?_;go_simp;exact HK.out undef _ ⟨fun h => absurd rfl h,fun _ => ⟨NegS.mk R2 (fun u hu => by simp at hu; rcases hu with rfl | rfl | rfl | rfl <;> intro z e <;> cases e) r5,((((Below.refl _ W).setCell (p:=⟨g2,_,none⟩) hle _).setCell (p:=⟨g2,_,none⟩) hle _).setCell (p:=⟨g2,_,none⟩) hle _).setCell (p:=⟨g2,_,none⟩) hle _⟩⟩ (trivial)
 case he =>
  rintro T W hb hS hA;have hS:NegS W g2 (-r):=hS;simp only [ovr,List.setIfInBounds_toArray,List.set_cons_zero,List.set_cons_succ];obtain ⟨ng4,ao4,n4,cap4,nh4,ap4,m4,caq4,q,hv⟩:=hS;obtain ⟨q0,q1,q2,q3⟩:=Row.n4 q;clear hA;go_wp2;refine bodyPost_ret (v:=.agg #[.bool ng4,.slice ao4 n4 cap4,.bool nh4,.slice ap4 m4 caq4]) (by simp [results,Tryz.results62,go_sem,q0,q1,q2,q3]) rfl ⟨?_,hb⟩;obtain ⟨_,_,_,_,_,_,_,_,e9,k1,k2⟩:=hv
  cases e9
  exact ⟨_,_,_,_,_,_,_,_,rfl,hii k1,hii k2⟩
theorem rlistsQ (l:List Rat) (hl:l.length≤1000000) (ax ay:Option Addr) (cx cy:Nat) (w:World) (ux:UQ w ax (l.map some)) (uy:UQ w ay (l.map some)) :
  Calls Tryz.prog 20 #[.slice ax l.length cx,.slice ay l.length cy] w fun e w' => e=.returned (.bool true)∧Below w.heap.size w w':=by
 have:=rlists13 (l.map fun r => (r.num,(r.den:Int))) (by simpa using hl) ax ay cx cy w (UJ.of ux) (UJ.of uy);rw [List.length_map] at this;exact this
theorem requal13_ok (A:List (List Rat)) (b C:List Rat) (hA:A.length≤1000000) (hB:b.length≤1000000) (hC:C.length≤1000000) (hr:Hid (∀ r∈A,r.length≤1000000)) (aA1 aB1 aC1 aA2 aB2 aC2:Option Addr) (cA1 cB1 cC1 cA2 cB2 cC2:Nat) (w:World)
  (uA1:UM w aA1 (A.map (·.map some))) (uB1:UQ w aB1 (b.map some)) (uC1:UQ w aC1 (C.map some)) (uA2:UM w aA2 (A.map (·.map some))) (uB2:UQ w aB2 (b.map some)) (uC2:UQ w aC2 (C.map some)) :
  Calls Tryz.prog 25 #[.agg #[.slice aA1 A.length cA1,.slice aB1 b.length cB1,.slice aC1 C.length cC1],.agg #[.slice aA2 A.length cA2,.slice aB2 b.length cB2,.slice aC2 C.length cC2]] w fun e w' => e=.returned (.bool true)∧Below w.heap.size w w':=by
 have hbw:=Below.refl w.heap.size w;go_enter Tryz.func25,Tryz.ntmps25;go_upto_region 1 with fail;obtain ⟨wx,hwx,r1,r2,hb⟩:=two_rows w 30 30 [.slice aA1 A.length cA1,.slice aB1 b.length cB1,.slice aC1 C.length cC1] [.slice aA2 A.length cA2,.slice aB2 b.length cB2,.slice aC2 C.length cC2];simp only [List.toArray] at hwx;rw [← hwx];clear hwx;obtain ⟨g2,hg2⟩:∃ g2,g2=w.heap.size + 1:=⟨_,rfl⟩;rw [← hg2] at r2 ⊢;clear hg2;obtain ⟨g1,hg1⟩:∃ g1,g1=w.heap.size:=⟨_,rfl⟩;rw [← hg1] at r1 ⊢;clear hg1;obtain ⟨w0,rfl⟩:∃ w0:World,w0=wx:=⟨_,rfl⟩;have uA1:=uA1.mono hb;have uB1:=uB1.mono hb;have uC1:=uC1.mono hb;have uA2:=uA2.mono hb;have uB2:=uB2.mono hb;have uC2:=uC2.mono hb;have hbw:=bu hbw hb;clear hb;obtain ⟨x0,x1,x2⟩:=r1.n3;obtain ⟨y0,y1,y2⟩:=r2.n3;go_wp2_with fail;(with_reducible refine (rlistsQ b hB aB1 aB2 cB1 cB2 w0 uB1 uB2).mono ?_);rintro e w1 ⟨rfl,hb⟩;have uA1:=uA1.mono hb;have uA2:=uA2.mono hb;have uC1:=uC1.mono hb;have uC2:=uC2.mono hb;have r1:=r1.below hb;have r2:=r2.below hb;have hbw:=bu hbw hb;clear hb x0 x1 x2 y0 y1 y2;obtain ⟨x0,x1,x2⟩:=r1.n3;obtain ⟨y0,y1,y2⟩:=r2.n3;go_wp2_with fail;(with_reducible refine (rlistsQ C hC aC1 aC2 cC1 cC2 w1 uC1 uC2).mono ?_);rintro e w2 ⟨rfl,hb⟩;have uA1:=uA1.mono hb;have uA2:=uA2.mono hb;have uC1:=uC1.mono hb;have uC2:=uC2.mono hb;have r1:=r1.below hb;have r2:=r2.below hb;have hbw:=bu hbw hb;clear hb x0 x1 x2 y0 y1 y2;obtain ⟨x0,x1,x2⟩:=r1.n3;obtain ⟨y0,y1,y2⟩:=r2.n3;go_wp2_with fail;clear x0 x1 x2 y0 y1 y2;go_loopw [5] (fun s wr => ∃ k:Nat,k≤A.length∧s=.int .i64 (k:Nat)∧Below w2.heap.size w2 wr) (fun s _ => A.length - (intOf s).toNat)
 case atStart => exact ⟨0,Nat.zero_le _,rfl,br⟩
 case round =>
  obtain ⟨k,hk,rfl,hb2⟩:=hrel;have r1:=r1.below hb2;have r2:=r2.below hb2;obtain ⟨x0,x1,x2⟩:=r1.n3;obtain ⟨y0,y1,y2⟩:=r2.n3
  by_cases hlt:k < A.length
  ·obtain ⟨a,ha⟩:∃ a,A[k]?=some a:=⟨A[k],gE hlt⟩;have hal:=hr.out a (List.mem_of_getElem? ha);obtain ⟨b3,off3,ar3,cr3,e3,hc3,ur3⟩:=(uA1.mono hb2) k (a.map some) (by rw [List.getElem?_map,ha]; rfl);obtain ⟨b4,off4,ar4,cr4,e4,hc4,ur4⟩:=(uA2.mono hb2) k (a.map some) (by rw [List.getElem?_map,ha]; rfl);rw [List.length_map] at hc3 hc4;subst e3;subst e4;clear ha uB1 uB2 uC1 uC2 uA1 uA2;have hxk:(k:Int) < (A.length:Int):=by omega
   go_upto_region 6 with fail;refine wp_region_vals (wx:=wr) [(fun _ v => v=.pointer (some ⟨g1,0,none⟩)),(fun _ v => v=.slice (some ⟨b3,off3,none⟩) A.length cA1),(fun _ v => v=.int .i64 (k:Nat)),(fun _ v => v=.pointer (some ⟨b3,off3 + k,none⟩)),(fun _ v => v=.slice ar3 a.length cr3),(fun _ v => v=.pointer (some ⟨g2,0,none⟩)),(fun _ v => v=.slice (some ⟨b4,off4,none⟩) A.length cA2),(fun _ v => v=.int .i64 (k:Nat)),(fun _ v => v=.pointer (some ⟨b4,off4 + k,none⟩)),(fun _ v => v=.slice ar4 a.length cr4),(fun _ v => v=.bool true),(fun _ v => v=.bool false)] [36,37,38,39,40,41,42,43,44,45,46,47] (by kernel_rfl) (by kernel_rfl) (by kernel_rfl) (of_decide_eq_true (by kernel_rfl)) br ⟨sV _,sV _,sV _,sV _,sV _,sV _,sV _,sV _,sV _,sV _,sV _,sV _,trivial⟩ ⟨?s0,?s1,?s2,?s3,?s4,?s5,?s6,?s7,?s8,?s9,?s10,?s11,trivial⟩ ?he
   case s0 | s2 | s5 | s7 =>
    rintro T W hb hA K hK;simp only [ovr,Act.put,List.setIfInBounds_toArray,List.set_cons_zero,List.set_cons_succ] at hK ⊢;have HK:=hii hK;clear hK hA;refine wO rfl (by rfl) ?_;go_simp;exact HK.out _ _ br (rfl)
   case s1 =>
    rintro T W hb hA K hK;have e0:T 36=.pointer (some ⟨g1,0,none⟩):=hA.1;simp only [ovr,Act.put,List.setIfInBounds_toArray,List.set_cons_zero,List.set_cons_succ,e0] at hK ⊢;have HK:=hii hK;clear hK hA;obtain ⟨x0,x1,x2⟩:=(r1.below hb).n3;refine wO rfl (by rfl) ?_;go_simp;exact HK.out _ _ br (rfl)
   case s3 =>
    rintro T W hb hA K hK;have e1:T 37=.slice (some ⟨b3,off3,none⟩) A.length cA1:=hA.1;have e2:T 38=.int .i64 (k:Nat):=hA.2.1;simp only [ovr,Act.put,List.setIfInBounds_toArray,List.set_cons_zero,List.set_cons_succ,e1,e2] at hK ⊢;have HK:=hii hK;clear hK hA;refine wO rfl (by rfl) ?_;go_simp;exact HK.out _ _ br (rfl)
   case s4 =>
    rintro T W hb hA K hK;have e3:T 39=.pointer (some ⟨b3,off3 + k,none⟩):=hA.1;simp only [ovr,Act.put,List.setIfInBounds_toArray,List.set_cons_zero,List.set_cons_succ,e3] at hK ⊢;have HK:=hii hK;clear hK hA;have hc9:=(hb.cell (cell_lt hc3)).trans hc3;refine wO rfl (by rfl) ?_;go_simp;exact HK.out _ _ br (rfl)
   case s6 =>
    rintro T W hb hA K hK;have e5:T 41=.pointer (some ⟨g2,0,none⟩):=hA.1;simp only [ovr,Act.put,List.setIfInBounds_toArray,List.set_cons_zero,List.set_cons_succ,e5] at hK ⊢;have HK:=hii hK;clear hK hA;obtain ⟨x0,x1,x2⟩:=(r2.below hb).n3;refine wO rfl (by rfl) ?_;go_simp;exact HK.out _ _ br (rfl)
   case s8 =>
    rintro T W hb hA K hK;have e6:T 42=.slice (some ⟨b4,off4,none⟩) A.length cA2:=hA.1;have e7:T 43=.int .i64 (k:Nat):=hA.2.1;simp only [ovr,Act.put,List.setIfInBounds_toArray,List.set_cons_zero,List.set_cons_succ,e6,e7] at hK ⊢;have HK:=hii hK;clear hK hA;refine wO rfl (by rfl) ?_;go_simp;exact HK.out _ _ br (rfl)
   case s9 =>
    rintro T W hb hA K hK;have e8:T 44=.pointer (some ⟨b4,off4 + k,none⟩):=hA.1;simp only [ovr,Act.put,List.setIfInBounds_toArray,List.set_cons_zero,List.set_cons_succ,e8] at hK ⊢;have HK:=hii hK;clear hK hA;have hc9:=(hb.cell (cell_lt hc4)).trans hc4;refine wO rfl (by rfl) ?_;go_simp;exact HK.out _ _ br (rfl)
   case s10 =>
    rintro T W hb hA K hK;have e4:T 40=.slice ar3 a.length cr3:=hA.1;have e9:T 45=.slice ar4 a.length cr4:=hA.2.1;simp only [ovr,Act.put,List.setIfInBounds_toArray,List.set_cons_zero,List.set_cons_succ,e4,e9] at hK ⊢;have HK:=hii hK;clear hK hA;refine wO rfl (by rfl) ?_;go_simp;(with_reducible refine (rlistsQ a hal ar3 ar4 cr3 cr4 W (ur3.mono hb) (ur4.mono hb)).mono ?_);rintro e w1 ⟨rfl,hb1⟩
    try dsimp only
    exact HK.out _ _ hb1 (rfl)
   case s11 =>
    rintro T W hb hA K hK;have e10:T 46=.bool true:=hA.1;simp only [ovr,Act.put,List.setIfInBounds_toArray,List.set_cons_zero,List.set_cons_succ,e10] at hK ⊢;have HK:=hii hK;clear hK hA;refine wO rfl (by rfl) ?_;go_simp;exact HK.out _ _ br (rfl)
   case he =>
    rintro T W hb hA;have f11:T 47=.bool false:=hA.at 11 (by decide);simp only [ovr,List.setIfInBounds_toArray,List.set_cons_zero,List.set_cons_succ,f11];have hb3:=bu hb2 hb;clear hA f11 x0 x1 x2 y0 y1 y2;go_wp2;go_roundw
    case rel => exact ⟨k + 1,by omega,by go_num,hb3⟩
    case measure => simp [intOf]; omega
  ·go_wp2;go_ret;exact ⟨rfl,bu hbw hb2⟩
end Go.Proofs.YtileholjbdhmjaaGreatDoor
