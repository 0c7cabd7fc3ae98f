/-
  The reference's best vertex: its walk.
-/
import Derived.Test.YtileholjbdhmjaaGreatDoorZf
import Derived.Test.YtileholjbdhmjaaGreatDoorFlowX
set_option linter.unusedVariables false
set_option linter.unusedSimpArgs false
set_option maxRecDepth 100000
set_option maxHeartbeats 25600000
namespace Go.Proofs.YtileholjbdhmjaaGreatDoor
open Go.RowKit
def cL (A:List (List Rat)) (n i:Nat):List (List Qo):=((condL A n).take i).map (·.map some)
def cR (b:List Rat) (n i:Nat):List Qo:=((condR b n).take i).map some
theorem cL_succ {A:List (List Rat)} {n i:Nat} {a:List Rat} (h:(condL A n)[i]?=some a):cL A n (i + 1)=cL A n i ++ [a.map some]:=by
 unfold cL;rw [List.take_add_one,h,List.map_append]; rfl
theorem cR_succ {b:List Rat} {n i:Nat} {x:Rat} (h:(condR b n)[i]?=some x):cR b n (i + 1)=cR b n i ++ [some x]:=by
 unfold cR;rw [List.take_add_one,h,List.map_append]; rfl
theorem cL_len (A:List (List Rat)) (n i:Nat):(cL A n i).length<=i:=by
 unfold cL;rw [List.length_map,List.length_take]; omega
theorem cR_len (b:List Rat) (n i:Nat):(cR b n i).length<=i:=by
 unfold cR;rw [List.length_map,List.length_take]; omega
theorem condL_at1 {A:List (List Rat)} {n i:Nat} {a:List Rat} (h:A[i]?=some a):(condL A n)[i]?=some a:=by
 unfold condL;rw [List.getElem?_append_left (lt_of_get h)]; exact h
theorem condR_at1 {b:List Rat} {n i:Nat} {a:Rat} (h:b[i]?=some a):(condR b n)[i]?=some a:=by
 unfold condR;rw [List.getElem?_append_left (lt_of_get h)]; exact h
theorem condL_at2 {A:List (List Rat)} {m n k:Nat} (hA:A.length=m) (hk:k < n):(condL A n)[m + k]?=some (unitR n k):=by
 unfold condL;rw [List.getElem?_append_right (by omega),hA,show m + k - m=k by omega,List.getElem?_map,List.getElem?_range hk]; rfl
theorem condR_at2 {b:List Rat} {m n k:Nat} (hb:b.length=m) (hk:k < n):(condR b n)[m + k]?=some 0:=by
 unfold condR;rw [List.getElem?_append_right (by omega),hb,show m + k - m=k by omega,List.getElem?_map,List.getElem?_range hk]; rfl
theorem cL_all {A:List (List Rat)} {b C:List Rat} {m n K:Nat} (W:WP A b C m n K):cL A n (m + n)=(condL A n).map (·.map some):=by
 unfold cL;rw [List.take_of_length_le (by rw [condL_len W]; exact nl)]
theorem cR_all {A:List (List Rat)} {b C:List Rat} {m n K:Nat} (W:WP A b C m n K):cR b n (m + n)=(condR b n).map some:=by
 unfold cR;rw [List.take_of_length_le (by rw [condR_len W]; exact nl)]
theorem put4 {W:World} {g:Nat} {r:Rat} {x0 x1 x2 x3:Value} {ng:Bool} {ao:Option Addr} {n cap:Nat} {nh:Bool} {ap:Option Addr} {m caq:Nat} (h:Row W g 38 [x0,x1,x2,x3]) (hn:∀ u∈[x0,x1,x2,x3],NoLimb u) (hv:RatV W (.agg #[.bool ng,.slice ao n cap,.bool nh,.slice ap m caq]) r) :
  Row ((((W.setCell ⟨g,0,none⟩ (.bool ng)).setCell ⟨g,1,none⟩ (.slice ao n cap)).setCell ⟨g,2,none⟩ (.bool nh)).setCell ⟨g,3,none⟩ (.slice ap m caq)) g 38 [.bool ng,.slice ao n cap,.bool nh,.slice ap m caq] /\
  RatV ((((W.setCell ⟨g,0,none⟩ (.bool ng)).setCell ⟨g,1,none⟩ (.slice ao n cap)).setCell ⟨g,2,none⟩ (.bool nh)).setCell ⟨g,3,none⟩ (.slice ap m caq)) (.agg #[.bool ng,.slice ao n cap,.bool nh,.slice ap m caq]) r /\
  ∀ B X,B<=g->Below B X W->Below B X ((((W.setCell ⟨g,0,none⟩ (.bool ng)).setCell ⟨g,1,none⟩ (.slice ao n cap)).setCell ⟨g,2,none⟩ (.bool nh)).setCell ⟨g,3,none⟩ (.slice ap m caq)) :=
 ⟨(((h.set 0 (.bool ng)).set 1 (.slice ao n cap)).set 2 (.bool nh)).set 3 (.slice ap m caq),hv.keptU (((((Kept.refl W:Kept (λ k => k=g) W W)).setCell (p:=⟨g,0,none⟩) rfl _).setCell (p:=⟨g,1,none⟩) rfl _).setCell (p:=⟨g,2,none⟩) rfl _ |>.setCell (p:=⟨g,3,none⟩) rfl _) (h.noU hn),
  λ _ _ hB hb => (((hb.setCell (p:=⟨g,_,none⟩) hB _).setCell (p:=⟨g,_,none⟩) hB _).setCell (p:=⟨g,_,none⟩) hB _).setCell (p:=⟨g,_,none⟩) hB _⟩
theorem noL4 {ng:Bool} {ao:Option Addr} {n cap:Nat} {nh:Bool} {ap:Option Addr} {m caq:Nat}:∀ u∈[Value.bool ng,.slice ao n cap,.bool nh,.slice ap m caq],NoLimb u:=by
 intro u hu;simp at hu;rcases hu with rfl | rfl | rfl | rfl <;> intro z e <;> cases e
theorem bit_test (w i:Nat) (hw:w < 256):bits .and .i64 ((w:Int) / 2 ^ i) 1=if w.testBit i then 1 else 0:=by
 have e:(w:Int) / 2 ^ i=((w / 2 ^ i:Nat):Int):=by push_cast; rfl
 rw [e];have hlt:w / 2 ^ i < 256:=Nat.lt_of_le_of_lt (Nat.div_le_self _ _) hw;rw [Nat.testBit_eq_decide_div_mod_eq];generalize w / 2 ^ i=q at *
 show IntKind.i64.wrap ((BitVec.ofInt 64 (q:Int) &&& BitVec.ofInt 64 ((1:Nat):Int)).toNat:Int)=_
 exact (of_decide_eq_true (by kernel_rfl):∀ q:Nat,q < 256->IntKind.i64.wrap ((BitVec.ofInt 64 (q:Int) &&& BitVec.ofInt 64 ((1:Nat):Int)).toNat:Int)=if decide (q % 2=1)=true then 1 else 0) q hlt
theorem unit_wh (n k:Nat) (j:Nat) (p:Bool) (hp:p=decide (j=k)):(((if p then 1 else 0:Int)):Rat)=if j=k then (1:Rat) else 0:=by
 rw [hp]; by_cases e:j=k <;> simp [e]
theorem rzero13_ok (w:World) (hE:Env w):Calls Tryz.prog 55 #[] w λ e w' => GotR w' 0 e/\Below w.heap.size w w':=by
 have hE0:=hE;have e0:(((0:Int)):Rat)=0:=rfl;go_enter Tryz.func55,Tryz.ntmps55;go_upto_region 1 with fail;have hb:=bA w (.cells #[.bool false,.slice none 0 0,.bool false,.slice none 0 0] 38);have rX:Row (w.alloc (.cells #[.bool false,.slice none 0 0,.bool false,.slice none 0 0] 38)) w.heap.size 38 [.bool false,.slice none 0 0,.bool false,.slice none 0 0]:=heap_alloc_new _ _;obtain ⟨g0,hg⟩:=exi (w.heap.size);have Hg:Hid (w.heap.size<=g0):=hii (by omega);rw [<- hg] at rX |-;clear hg;generalize w.alloc (.cells #[.bool false,.slice none 0 0,.bool false,.slice none 0 0] 38)=v1 at *;have hE:=hE.mono hb;have hbw:=hb;clear hb;have HR:=rnum_any 0 (by decide) (by decide) v1 hE;rw [e0] at HR;clear e0 hE0;go_wp2_with fail;(with_reducible refine HR.mono ?_);rintro e v2 ⟨⟨ng1,ao1,n1,cap1,nh1,ap1,m1,caq1,rfl,h1,h2⟩,hb⟩;have rX:=rX.below hb;have hbw:=bu hbw hb;clear hb HR;obtain ⟨p0,p1,p2,p3⟩:=rX.n4;have q0:=rX.free 0;have q1:=rX.free 1;have q2:=rX.free 2;have q3:=rX.free 3;have HP4:=hii (put4 rX noL4 (RatV.mk' h1 h2));have Hbw:=hii (HP4.out.2.2 _ _ Hg.out hbw);clear rX hbw h1 h2 hE;go_wp2;obtain ⟨z1,z2,_⟩:=HP4.out;have z3:=Hbw.out;clear HP4 Hbw q0 q1 q2 q3 p0 p1 p2 p3;generalize (((v2.setCell ⟨g0,0,none⟩ (.bool ng1)).setCell ⟨g0,1,none⟩ (.slice ao1 n1 cap1)).setCell ⟨g0,2,none⟩ (.bool nh1)).setCell ⟨g0,3,none⟩ (.slice ap1 m1 caq1)=v3 at *;obtain ⟨p0,p1,p2,p3⟩:=Row.n4 z1;refine bodyPost_ret (v:=.agg #[.bool ng1,.slice ao1 n1 cap1,.bool nh1,.slice ap1 m1 caq1]) (by simp [results,Tryz.results55,go_sem,p0,p1,p2,p3]) rfl ⟨?_,z3⟩;obtain ⟨_,_,_,_,_,_,_,_,e9,k1,k2⟩:=z2
 cases e9
 exact ⟨_,_,_,_,_,_,_,_,rfl,hii k1,hii k2⟩
theorem rbest13_ok {A:List (List Rat)} {b C X Y:List Rat} {val:Rat} {m n:Nat} (HW:Hid (WP A b C m n 20)) (HO:Hid (OptX A b C m n val X Y)) (hm4:m<=4) (hn4:n<=4) (aA aB aC:Option Addr) (cA cB cC:Nat) (w:World) (hP:PrgA w A b C aA aB aC) (hE:Env w) :
  Calls Tryz.prog 19 #[.agg #[.slice aA m cA,.slice aB m cB,.slice aC n cC]] w λ e w' => GotR w' val e/\Below w.heap.size w w':=by
 have hE0:=hE;have hm1:=HW.out.hm;have hn1:=HW.out.hn;go_enter Tryz.func19,Tryz.ntmps19;go_upto_region 1 with fail;obtain ⟨wx,hwx,rP,rT,hb⟩:=two_rows w 30 38 [.slice aA m cA,.slice aB m cB,.slice aC n cC] [.bool false,.slice none 0 0,.bool false,.slice none 0 0];simp only [List.toArray] at hwx;rw [<- hwx];clear hwx;obtain ⟨g2,hg2⟩:=exi (w.heap.size + 1);have Hg2:Hid (w.heap.size<=g2):=hii (by omega);rw [<- hg2] at rT |-;clear hg2;obtain ⟨g,hg⟩:=exi (w.heap.size);rw [<- hg] at rP |-;clear hg;obtain ⟨w1,rfl⟩:=exi wx;have hP1:=hP.mono hb;have hE1:=hE.mono hb;have hbw:=hb;clear hb hP hE hE0;refine wp_region_vals (wx:=w1) [(λ _ v => v=.pointer (some ⟨g,1,none⟩)),(λ _ v => v=.slice aB m cB),(λ _ v => v=.int .i64 (m:Nat)),(λ _ v => v=.pointer (some ⟨g,2,none⟩)),(λ _ v => v=.slice aC n cC),(λ _ v => v=.int .i64 (n:Nat)),(λ _ v => v=.int .i64 (m:Nat)),(λ _ v => v=.int .i64 (n:Nat))] [18,19,20,21,22,23,3,4] (by kernel_rfl) (by kernel_rfl) (by kernel_rfl) (of_decide_eq_true (by kernel_rfl)) br ⟨sV _,sV _,sV _,sV _,sV _,sV _,sV _,sV _,trivial⟩ ⟨?s0,?s1,?s2,?s3,?s4,?s5,?s6,?s7,trivial⟩ ?he
 case' s0 | s1 | s2 | s3 | s4 | s5 | s6 | s7 =>
  rintro T W hb hA K hK
 case' s0 | s3 =>
  simp only [ovr,Act.put,sT,sZ,sS] at hK |-
 case' s2 =>
  have e1:T 19=.slice aB m cB:=hA.1;simp only [ovr,Act.put,sT,sZ,sS,e1] at hK |-
 case' s5 =>
  have e4:T 22=.slice aC n cC:=hA.1;simp only [ovr,Act.put,sT,sZ,sS,e4] at hK |-
 case' s6 =>
  have e2:T 20=.int .i64 (m:Nat):=hA.1;simp only [ovr,Act.put,sT,sZ,sS,e2] at hK |-
 case' s7 =>
  have e5:T 23=.int .i64 (n:Nat):=hA.1;simp only [ovr,Act.put,sT,sZ,sS,e5] at hK |-
 case' s1 =>
  have e0:T 18=.pointer (some ⟨g,1,none⟩):=hA.1;simp only [ovr,Act.put,sT,sZ,sS,e0] at hK |-;have HK:=hii hK;clear hK hA;obtain ⟨x0,x1,x2⟩:=(rP.below hb).n3
 case' s4 =>
  have e3:T 21=.pointer (some ⟨g,2,none⟩):=hA.1;simp only [ovr,Act.put,sT,sZ,sS,e3] at hK |-;have HK:=hii hK;clear hK hA;obtain ⟨x0,x1,x2⟩:=(rP.below hb).n3
 case s0 | s2 | s3 | s5 | s6 | s7 =>
  have HK:=hii hK;clear hK hA;refine wO rfl (by rfl) ?_;go_simp;exact HK.out _ _ br (rfl)
 case s1 | s4 =>
  refine wO rfl (by rfl) ?_;go_simp;exact HK.out _ _ br (rfl)
 case he =>
  rintro T W hb hA;have f6:T 3=.int .i64 (m:Nat):=hA.at 6 (by decide);have f7:T 4=.int .i64 (n:Nat):=hA.at 7 (by decide);simp only [ovr,sT,sZ,sS,f6,f7];have hP2:=hP1.mono hb;have hE2:=hE1.mono hb;have rP2:=rP.below hb;have rT2:=rT.below hb;have hbw2:=bu hbw hb;clear hA f6 f7 hb hP1 hE1 rP rT hbw;obtain ⟨w2,rfl⟩:=exi W;go_wp2_with fail;go_loopw [5,6,7] (λ s u c wr => ∃ i:Nat,i<=m/\c=.int .i64 (i:Nat)/\TQ wr w2.heap.size s u (cL A n i) (cR b n i)/\Below w2.heap.size w2 wr) (λ _ _ c _ => m - (intOf c).toNat)
  case atStart => exact ⟨0,Nat.zero_le _,rfl,TQ.nil _ _,br⟩
  case round =>
   obtain ⟨i,hi,rfl,hT,hbr⟩:=hrel;have Hlen:Hid ((cL A n i).length<=1000/\(cR b n i).length<=1000):=hii ⟨by have:=cL_len A n i; omega,by have:=cR_len b n i; omega⟩
   by_cases hli:i < m
   ·obtain ⟨a,ha⟩:∃ a,A[i]?=some a:=⟨A[i]'(by rw [HW.out.lA]; exact hli),gE _⟩;obtain ⟨bi,hbi⟩:∃ a,b[i]?=some a:=⟨b[i]'(by rw [HW.out.lb]; exact hli),gE _⟩;have hla:a.length=n:=HW.out.rA a (List.mem_of_getElem? ha);obtain ⟨b0,off0,ar,cr,ea,hc,ur0⟩:=hP2.1 i (a.map some) (by rw [List.getElem?_map,ha]; rfl);rw [List.length_map,hla] at hc;obtain ⟨b1,off1,ng1,ao1,n1,cap1,nh1,ap1,m1,caq1,eb,FB0,hv0⟩:=hP2.2.1 i (some bi) (by rw [List.getElem?_map,hbi]; rfl);have hv0:RatV w2 _ bi:=hv0;have HcL:Hid (cL A n (i + 1)=cL A n i ++ [a.map some]):=hii (cL_succ (condL_at1 ha));have HcR:Hid (cR b n (i + 1)=cR b n i ++ [some bi]):=hii (cR_succ (condR_at1 hbi));have Hbl:Hid (∀ b,(Value.slice ar n cr).ownBlock=some b->b < w2.heap.size):=hii (by
     obtain ⟨x,hx⟩:∃ x,a[0]?=some x:=⟨a[0]'(by omega),gE _⟩;obtain ⟨b8,off8,_,_,_,_,_,_,_,_,e8,f8,_⟩:=ur0 0 (some x) (by rw [List.getElem?_map,hx]; rfl);intro b e;rw [e8] at e;simp only [Value.ownBlock,Option.some.injEq] at e;rw [<- e];exact cell_lt f8.c0)
    subst ea;subst eb;clear ha hbi;have hcr:=(hbr.cell (p:=⟨b0,off0 + i,none⟩) (cell_lt hc)).trans hc;have ur:=ur0.mono hbr;have hsz:=hbr.size;have hsp:∀ b,(Value.slice ar n cr).ownBlock=some b->u5.ownBlock ≠ some b/\u6.ownBlock ≠ some b/\b < wr.heap.size:=λ b e => ⟨λ e2 => by have:=Hbl.out b e; have:=(hT.lts.1 b e2).1; omega,λ e2 => by have:=Hbl.out b e; have:=(hT.lts.2 b e2).1; omega,Nat.lt_of_lt_of_le (Hbl.out b e) hsz⟩
    obtain ⟨x0,x1,x2⟩:=(rP2.below hbr).n3;go_upto_region 8 with (at_builtin; go_loud (refine app_tqA wr w2 w2.heap.size rfl (.tmp 29) (.tmp 35) rfl rfl rfl hT (by rw [List.length_map,hla]) ur hsp hsz hbr (by have:=Hlen.out.1; omega) ?_); intro v2 w4 hT2 hbr2);clear x0 x1 x2 hcr hT hsp ur;obtain ⟨x0,x1,x2⟩:=(rP2.below hbr2).n3;obtain ⟨y0,y1,y2,y3,-,-,-,-⟩:=FB0.mono hbr2;have hv:=hv0.mono hbr2;have hsz2:=hbr2.size;go_wp2_with (at_builtin; go_loud (refine app_tqB _ w2 rfl (.tmp 37) (.tmp 43) rfl w2.heap.size _ _ rfl hT2 hsz2 hbr2 hv rfl (by have:=Hlen.out.2; omega) ?_); intro v3 w5 hT3 hbr3);go_roundw
    case rel => exact ⟨i + 1,by omega,by go_num,by rw [HcL.out,HcR.out]; exact hT3,hbr3⟩
    case measure => simp [intOf]; omega
   ·have hie:i=m:=by omega
    rw [hie] at hT;clear Hlen hie hi;go_wp2_with fail;clear hli;go_loopw [5,6,8] (λ s u c wr => ∃ k:Nat,k<=n/\c=.int .i64 (k:Nat)/\TQ wr w2.heap.size s u (cL A n (m + k)) (cR b n (m + k))/\Below w2.heap.size w2 wr) (λ _ _ c _ => n - (intOf c).toNat)
    case atStart => exact ⟨0,Nat.zero_le _,rfl,hT,hbr⟩
    case round =>
     clear hT hbr;obtain ⟨k,hk,rfl,hT,hbr⟩:=hrel;have Hlen:Hid ((cL A n (m + k)).length<=1000/\(cR b n (m + k)).length<=1000):=hii ⟨by have:=cL_len A n (m + k); omega,by have:=cR_len b n (m + k); omega⟩
     by_cases hlk:k < n
     ·have HcL:Hid (cL A n (m + (k + 1))=cL A n (m + k) ++ [(unitR n k).map some]):=hii (cL_succ (condL_at2 HW.out.lA hlk));have HcR:Hid (cR b n (m + (k + 1))=cR b n (m + k) ++ [some 0]):=hii (cR_succ (condR_at2 HW.out.lb hlk));obtain ⟨w7,rfl⟩:=exi wr;have HVT:=hii hT;have HVB:=hii hbr;have hE7:=hE2.mono hbr;clear hT hbr;go_wp2_with fail;go_loopw [9,10] (λ s c wr => ∃ j:Nat,j<=n/\c=.int .i64 (j:Nat)/\OwnO wr w7.heap.size s (((List.range j).map λ t => if t=k then (1:Rat) else 0).map some)/\Below w7.heap.size w7 wr) (λ _ c _ => n - (intOf c).toNat)
      case atStart => exact ⟨0,Nat.zero_le _,rfl,OwnO.nil _ _,br⟩
      case round =>
       obtain ⟨j,hj,rfl,hown,hbj⟩:=hrel
       by_cases hlj:j < n
       ·have HJ:Hid (((List.range (j + 1)).map λ t => if t=k then (1:Rat) else 0).map some=((List.range j).map λ t => if t=k then (1:Rat) else 0).map some ++ [some (if j=k then (1:Rat) else 0)]):=hii (by rw [range_snoc,List.map_append]; rfl);have Hj6:Hid ((((List.range j).map λ t => if t=k then (1:Rat) else 0).map some).length<=100000):=hii (by simp; omega);have hEj:=hE7.mono hbj;obtain ⟨p,hp⟩:∃ p,p=decide (j=k):=⟨_,rfl⟩;have HJ1:Hid ((((if p then 1 else 0:Int)):Rat)=if j=k then (1:Rat) else 0):=hii (unit_wh n k j p hp);have HJ2:Hid (-9223372036854775808<=(if p then 1 else 0:Int)/\(if p then 1 else 0:Int)<=9223372036854775807):=hii (by cases p <;> decide);have hpk:decide ((j:Int)=(k:Int))=p:=by rw [hp]; exact decide_eq_decide.2 ⟨λ h => by omega,λ h => by omega⟩
        have hpk2:((j:Int) == (k:Int))=p:=hpk;clear hp;go_wp2_with fail
        try rw [hpk2]
        try rw [hpk]
        (with_reducible refine (one_ok p wr).mono ?_);rintro e w8 ⟨rfl,hb⟩;have hown:=hown.mono hb;have hEj:=hEj.mono hb;have hbj:=bu hbj hb;clear hb;obtain ⟨z1,hz1⟩:∃ z1:Int,z1=if p then 1 else 0:=⟨_,rfl⟩
        rw [<- hz1] at HJ1 HJ2 |-;clear hz1;go_wp2_with fail;(with_reducible refine (rnum_any z1 HJ2.out.1 HJ2.out.2 w8 hEj).mono ?_);rintro e w9 ⟨⟨ng2,ao2,n2,cap2,nh2,ap2,m2,caq2,rfl,h1,h2⟩,hb⟩;have hown:=hown.mono hb;have hbj:=bu hbj hb;have hsz:=hbj.size;clear hb hEj;go_wp2_with (at_builtin; go_loud (refine app_o1 _ w7 rfl (.tmp 55) (.tmp 61) rfl w7.heap.size _ _ rfl hown hsz hbj (RatV.mk' h1 h2) rfl Hj6.out ?_); intro v3 w10 hown3 hbel3);go_roundw
        case rel => exact ⟨j + 1,by omega,by go_num,by rw [HJ.out,<- HJ1.out]; exact hown3,hbel3⟩
        case measure => simp [intOf]; omega
       ·have hje:j=n:=by omega
        rw [hje] at hown;have hlt2:=hown.lt;obtain ⟨ar,cr,e8,uq⟩:=hown.read;have e1:(((List.range n).map λ t => if t=k then (1:Rat) else 0).map some).length=n:=by simp
        rw [e1] at e8;subst e8;have hT:=HVT.out.mono hbj;have hsp:∀ b,(Value.slice ar n cr).ownBlock=some b->u5.ownBlock ≠ some b/\u6.ownBlock ≠ some b/\b < wr.heap.size:=λ b e => ⟨λ e2 => by have:=(hlt2 b e).1; have:=(HVT.out.lts.1 b e2).2; omega,λ e2 => by have:=(hlt2 b e).1; have:=(HVT.out.lts.2 b e2).2; omega,(hlt2 b e).2⟩
        have hbr:=Below.step HVB.out hbj nl;have hsz:=hbr.size;have Huq:=hii uq;clear hown hlt2 hbj hj hje uq;go_upto_region 18 with (at_builtin; go_loud (refine app_tqA wr w2 w2.heap.size rfl (.tmp 63) (.tmp 65) rfl (l:=(unitR n k).map some) rfl rfl hT e1.symm Huq.out hsp hsz hbr (by have:=Hlen.out.1; omega) ?_); intro v3 w10 hT3 hbr3);have hE10:=hE2.mono hbr3;clear hT hsp e1 hlj;go_wp2_with fail;(with_reducible refine (rzero13_ok w10 hE10).mono ?_);rintro e w11 ⟨⟨ng3,ao3,n3,cap3,nh3,ap3,m3,caq3,rfl,h1,h2⟩,hb⟩;have hT4:=hT3.mono hb;have hbr4:=bu hbr3 hb;have hsz4:=hbr4.size;clear hT3 hb hbr3 hE10;go_wp2_with (at_builtin; go_loud (refine app_tqB _ w2 rfl (.tmp 67) (.tmp 69) rfl w2.heap.size _ _ rfl hT4 hsz4 hbr4 (RatV.mk' h1 h2) rfl (by have:=Hlen.out.2; omega) ?_); intro v4 w12 hT5 hbr5);go_roundw
        case rel => exact ⟨k + 1,by omega,by go_num,by rw [HcL.out,HcR.out]; exact hT5,hbr5⟩
        case measure => simp [intOf]; omega
     ·have hke:k=n:=by omega
      rw [hke,cL_all HW.out,cR_all HW.out] at hT;clear Hlen hke hk;obtain ⟨a5,c5,a6,c6,e5,e6,u5,u6⟩:=hT.read;rw [List.length_map,condL_len HW.out] at e5;rw [List.length_map,condR_len HW.out] at e6;subst e5;subst e6;have hP:=hP2.mono hbr;have hE:=hE2.mono hbr;have rP:=rP2.below hbr;have rT:=rT2.below hbr;have hbw:=bu hbw2 hbr;clear hT hP2 hE2 rP2 rT2 hbw2 hbr;go_wp2_with fail;clear hlk;(with_reducible refine (rzero13_ok wr hE).mono ?_);rintro e w3 ⟨⟨ng4,ao4,n4,cap4,nh4,ap4,m4,caq4,rfl,h1,h2⟩,hb⟩;have hP:=hP.mono hb;have hE:=hE.mono hb;have rP:=rP.below hb;have rT:=rT.below hb;have u5:=u5.mono hb;have u6:=u6.mono hb;have hbw:=bu hbw hb;have hV:RatV w3 (.agg #[.bool ng4,.slice ao4 n4 cap4,.bool nh4,.slice ap4 m4 caq4]) 0:=RatV.mk' h1 h2;clear hb h1 h2;go_upto_region 20 with fail;have hb:=bA w3 (.cells #[.bool ng4,.slice ao4 n4 cap4,.bool nh4,.slice ap4 m4 caq4] 38);have rB:Row (w3.alloc (.cells #[.bool ng4,.slice ao4 n4 cap4,.bool nh4,.slice ap4 m4 caq4] 38)) w3.heap.size 38 [.bool ng4,.slice ao4 n4 cap4,.bool nh4,.slice ap4 m4 caq4]:=heap_alloc_new _ _;have hV:=hV.mono hb;obtain ⟨gB,hg⟩:=exi (w3.heap.size);rw [<- hg] at rB |-;have HgB:=hii hg;clear hg;generalize w3.alloc (.cells #[.bool ng4,.slice ao4 n4 cap4,.bool nh4,.slice ap4 m4 caq4] 38)=w4 at *;have HI0:Hid (BestI A b C m n 0 0 val):=hii (BestI.start HW.out HO.out);have HK0:Hid (Kb 5 0):=hii ⟨by unfold KK; decide,by unfold KK; decide⟩;have hb4:Below w3.heap.size w3 w4:=hb;clear hb;obtain ⟨N,hN⟩:∃ N,N=2 ^ (m + n):=⟨_,rfl⟩;have hN256:N<=256:=by rw [hN]; exact Nat.pow_le_pow_right (by decide) (show m + n<=8 by omega)
      have HN:=hii hN;clear hN;go_wp2_with fail;go_loopw [12] (λ s wr => ∃ (t:Nat) (best:Rat) (ng:Bool) (ao:Option Addr) (n1 cap:Nat) (nh:Bool) (ap:Option Addr) (m1 caq:Nat),t<=N/\s=.int .i64 (t:Nat)/\Row wr gB 38 [.bool ng,.slice ao n1 cap,.bool nh,.slice ap m1 caq]/\RatV wr (.agg #[.bool ng,.slice ao n1 cap,.bool nh,.slice ap m1 caq]) best/\Hid (BestI A b C m n t best val)/\Hid (Kb 5 best)/\Below w3.heap.size w3 wr) (λ s _ => N - (intOf s).toNat)
      case atStart => exact ⟨0,0,_,_,_,_,_,_,_,_,Nat.zero_le _,rfl,rB,hV,HI0,HK0,hb4⟩
      case round =>
       clear rB hV HI0 HK0 hb4;obtain ⟨t,best,ng5,ao5,n5,cap5,nh5,ap5,m5,caq5,ht,rfl,rB,hV,HI,HK,hbr⟩:=hrel;have hshl:wrap64 ((2:Int) ^ (m + n))=(N:Int):=by
        have e2:(2:Int) ^ (m + n)=(N:Int):=by rw [HN.out]; push_cast; rfl
        rw [e2];unfold wrap64;omega
       by_cases hlt:t < N
       ·have ht256:t < 256:=by omega
        obtain ⟨w5,rfl⟩:=exi wr;have u5b:=u5.mono hbr;have u6b:=u6.mono hbr;have hP:=hP.mono hbr;have hE:=hE.mono hbr;have rP:=rP.below hbr;have hsd:decide ((t:Int) < (N:Int))=true:=decide_eq_true (by omega);go_wp2_with fail
        try simp only [hshl]
        try simp only [hsd]
        clear hshl hsd;go_loopw [13,14,15] (λ s u c wr => ∃ i:Nat,i<=m + n/\c=.int .i64 (i:Nat)/\TQ wr w5.heap.size s u ((selA A n t i).map (·.map some)) ((selB b n t i).map some)/\Below w5.heap.size w5 wr) (λ _ _ c _ => m + n - (intOf c).toNat)
        case atStart => exact ⟨0,Nat.zero_le _,rfl,TQ.nil _ _,br⟩
        case round =>
         obtain ⟨i,hi,rfl,hT,hbi⟩:=hrel
         by_cases hli:i < m + n
         ·obtain ⟨a,ha⟩:∃ a,(condL A n)[i]?=some a:=⟨(condL A n)[i]'(by rw [condL_len HW.out]; exact hli),gE _⟩;obtain ⟨x,hx⟩:∃ a,(condR b n)[i]?=some a:=⟨(condR b n)[i]'(by rw [condR_len HW.out]; exact hli),gE _⟩;have hla:a.length=n:=condL_row HW.out a (List.mem_of_getElem? ha);have HA:Hid (selA A n t (i + 1)=selA A n t i ++ (if t.testBit i then [a] else [])):=hii (by rw [selA_succ,getDL_of ha]);have HB:Hid (selB b n t (i + 1)=selB b n t i ++ (if t.testBit i then [x] else [])):=hii (by rw [selB_succ,gdo13 hx]);have Hlen:Hid (((selA A n t i).map (·.map some)).length<=1000/\((selB b n t i).map (some:Rat->Qo)).length<=1000):=hii (by rw [List.length_map,List.length_map,selA_len,selB_len]; have:=selI_len t i; omega);have hbt:=bit_test t i ht256
          by_cases htb:t.testBit i=true
          ·rw [if_pos htb] at hbt;have HA:Hid ((selA A n t (i + 1)).map (·.map some)=(selA A n t i).map (·.map some) ++ [a.map some]):=hii (by have:=HA.out; rw [if_pos htb] at this; rw [this,List.map_append]; rfl);have HB:Hid ((selB b n t (i + 1)).map some=(selB b n t i).map some ++ [some x]):=hii (by have:=HB.out; rw [if_pos htb] at this; rw [this,List.map_append]; rfl);obtain ⟨b0,off0,ar,cr,ea,hc,ur0⟩:=u5b i (a.map some) (by rw [List.getElem?_map,ha]; rfl);rw [List.length_map,hla] at hc;obtain ⟨b1,off1,ng1,ao1,n1,cap1,nh1,ap1,m1,caq1,eb,FB0,hv0⟩:=u6b i (some x) (by rw [List.getElem?_map,hx]; rfl);have hv0:RatV w5 _ x:=hv0;have Hbl:Hid (∀ b,(Value.slice ar n cr).ownBlock=some b->b < w5.heap.size):=hii (by
            obtain ⟨x,hx⟩:∃ x,a[0]?=some x:=⟨a[0]'(by omega),gE _⟩;obtain ⟨b8,off8,_,_,_,_,_,_,_,_,e8,f8,_⟩:=ur0 0 (some x) (by rw [List.getElem?_map,hx]; rfl);intro b e;rw [e8] at e;simp only [Value.ownBlock,Option.some.injEq] at e;rw [<- e];exact cell_lt f8.c0)
           subst ea;subst eb;clear ha hx htb;have hcr:=(hbi.cell (p:=⟨b0,off0 + i,none⟩) (cell_lt hc)).trans hc;have ur:=ur0.mono hbi;have hsz:=hbi.size;have hsp:∀ b,(Value.slice ar n cr).ownBlock=some b->u13.ownBlock ≠ some b/\u14.ownBlock ≠ some b/\b < wr.heap.size:=λ b e => ⟨λ e2 => by have:=Hbl.out b e; have:=(hT.lts.1 b e2).1; omega,λ e2 => by have:=Hbl.out b e; have:=(hT.lts.2 b e2).1; omega,Nat.lt_of_lt_of_le (Hbl.out b e) hsz⟩
           go_upto_region 30 with (at_builtin; go_loud (refine app_tqA wr w5 w5.heap.size rfl (.tmp 92) (.tmp 97) rfl rfl rfl hT (by rw [List.length_map,hla]) ur hsp hsz hbi (by have:=Hlen.out.1; omega) ?_); intro v2 w8 hT2 hbi2);clear hcr hT hsp ur hbt;obtain ⟨y0,y1,y2,y3,-,-,-,-⟩:=FB0.mono hbi2;have hv:=hv0.mono hbi2;have hsz2:=hbi2.size;go_wp2_with (at_builtin; go_loud (refine app_tqB _ w5 rfl (.tmp 99) (.tmp 104) rfl w5.heap.size _ _ rfl hT2 hsz2 hbi2 hv rfl (by have:=Hlen.out.2; omega) ?_); intro v3 w9 hT3 hbi3);go_roundw
           case rel => exact ⟨i + 1,by omega,by go_num,by rw [HA.out,HB.out]; exact hT3,hbi3⟩
           case measure => simp [intOf]; omega
          ·rw [if_neg htb] at hbt;have HA:Hid (selA A n t (i + 1)=selA A n t i):=hii (by have:=HA.out; rw [if_neg htb,List.append_nil] at this; exact this);have HB:Hid (selB b n t (i + 1)=selB b n t i):=hii (by have:=HB.out; rw [if_neg htb,List.append_nil] at this; exact this);clear htb ha hx;go_wp2;go_roundw
           case rel => exact ⟨i + 1,by omega,by go_num,by rw [HA.out,HB.out]; exact hT,hbi⟩
           case measure => simp [intOf]; omega
         ·have hie:i=m + n:=by omega
          rw [hie] at hT;obtain ⟨aM,cM,aN,cN,eM,eN,uM,uN⟩:=hT.read;rw [List.length_map,selA_len] at eM;rw [List.length_map,selB_len] at eN;have hP:=hP.mono hbi;have hE:=hE.mono hbi;have rP:=rP.below hbi;have rB:=rB.below hbi;have hV:=hV.mono hbi;have hbr:=bu hbr hbi;clear hT hbi hie hi
          by_cases hln:(selI t (m + n)).length=n
          ·have HS:=solve13_ok (selA A n t (m + n)) (selB b n t (m + n)) n (hii ⟨by rw [selA_len]; exact hln,by rw [selB_len]; exact hln⟩) ⟨hn1.1,hn4⟩ (hii (selA_row HW.out t)) (hii (selA_wh HW.out t)) (hii (selB_wh HW.out t)) aM aN cM cN wr uM uN hE;rw [hln] at eM eN;subst eM;subst eN;clear uM uN hln;go_wp2_with fail;(with_reducible refine HS.mono ?_);rintro e w6 ⟨hS,hb⟩;have hP:=hP.mono hb;have hE:=hE.mono hb;have rP:=rP.below hb;have rB:=rB.below hb;have hV:=hV.mono hb;have hbr:=bu hbr hb;clear hb HS u5b u6b;rcases hS with ⟨k,hk,HY,rfl⟩ | ⟨ax,cx,x,hlx,rfl,ux,hsx,hxb⟩
           ·have HI2:=hii (HI.out.none hk HY);clear HY hk;go_upto_region 33 with fail;refine wp_region_vals (wx:=w6) [(λ _ v => v=.bool false),(λ _ v => v=.bool false),(λ _ v => v=undef),(λ _ v => v=undef),(λ _ v => v=undef),(λ _ v => v=.bool false),(λ _ v => v=.bool false),(λ _ v => v=undef),(λ _ v => v=undef),(λ _ v => v=undef),(λ _ v => v=undef),(λ _ v => v=undef),(λ _ v => v=undef),(λ _ v => v=undef),(λ _ v => v=.bool false)] [116,117,118,119,120,121,122,123,124,125,126,127,128,129,130] (by kernel_rfl) (by kernel_rfl) (by kernel_rfl) (of_decide_eq_true (by kernel_rfl)) br ⟨sV _,sV _,sV _,sV _,sV _,sV _,sV _,sV _,sV _,sV _,sV _,sV _,sV _,sV _,sV _,trivial⟩ ⟨?s0,?s1,?s2,?s3,?s4,?s5,?s6,?s7,?s8,?s9,?s10,?s11,?s12,?s13,?s14,trivial⟩ ?he
            case' s0 | s1 | s2 | s3 | s4 | s5 | s6 | s7 | s8 | s9 | s10 | s11 | s12 | s13 | s14 =>
             rintro T W hb hA K hK
            case' s0 =>
             simp only [ovr,Act.put,sT,sZ,sS] at hK |-
            case' s1 =>
             have e0:T 116=.bool false:=hA.1;simp only [ovr,Act.put,sT,sZ,sS,e0] at hK |-
            case' s5 =>
             have e1:T 117=.bool false:=hA.1;have e4:T 120=undef:=hA.2.1;simp only [ovr,Act.put,sT,sZ,sS,e1,e4] at hK |-
            case' s6 =>
             have e5:T 121=.bool false:=hA.1;simp only [ovr,Act.put,sT,sZ,sS,e5] at hK |-
            case' s14 =>
             have e6:T 122=.bool false:=hA.1;have e13:T 129=undef:=hA.2.1;simp only [ovr,Act.put,sT,sZ,sS,e6,e13] at hK |-
            case' s2 | s3 =>
             have e1:T 117=.bool false:=hA.1;simp only [ovr,Act.put,sT,sZ,sS,e1] at hK |-
            case' s4 =>
             have e2:T 118=undef:=hA.1;have e3:T 119=undef:=hA.2.1;have e1:T 117=.bool false:=hA.2.2.1;simp only [ovr,Act.put,sT,sZ,sS,e2,e3,e1] at hK |-
            case' s7 | s9 | s11 =>
             have e6:T 122=.bool false:=hA.1;simp only [ovr,Act.put,sT,sZ,sS,e6] at hK |-
            case' s8 =>
             have e7:T 123=undef:=hA.1;have e6:T 122=.bool false:=hA.2.1;simp only [ovr,Act.put,sT,sZ,sS,e7,e6] at hK |-
            case' s10 =>
             have e8:T 124=undef:=hA.1;have e9:T 125=undef:=hA.2.1;have e6:T 122=.bool false:=hA.2.2.1;simp only [ovr,Act.put,sT,sZ,sS,e8,e9,e6] at hK |-
            case' s12 =>
             have e10:T 126=undef:=hA.1;have e11:T 127=undef:=hA.2.1;have e6:T 122=.bool false:=hA.2.2.2.1;simp only [ovr,Act.put,sT,sZ,sS,e10,e11,e6] at hK |-
            case' s13 =>
             have e12:T 128=undef:=hA.1;have e6:T 122=.bool false:=hA.2.1;simp only [ovr,Act.put,sT,sZ,sS,e12,e6] at hK |-
            case s0 | s1 | s5 | s6 | s14 =>
             have HK:=hii hK;clear hK hA;refine wO rfl (by rfl) ?_;go_simp;exact HK.out _ _ br (rfl)
            case s2 | s3 | s4 | s7 | s8 | s9 | s10 | s11 | s12 | s13 =>
             have HK:=hii hK;clear hK hA;refine wpOp_pass rfl (by rfl) ?_;simp only [Act.put,List.setIfInBounds_toArray];exact HK.out _ _ br (rfl)
            case he =>
             rintro T W hb hA;have f14:T 130=.bool false:=hA.at 14 (by decide);simp only [ovr,sT,sZ,sS,f14];have rB:=rB.below hb;have hV:=hV.mono hb;have hbr:=bu hbr hb;clear hA f14;go_wp2;go_roundw
             case rel => exact ⟨t + 1,best,_,_,_,_,_,_,_,_,by omega,by go_num,rB,hV,hii (HI2.out),HK,hbr⟩
             case measure => simp [intOf]; omega
           ·have Hlx:=hii hlx;have HSC:Hid (SolC A b m n t x):=hii ⟨hlx,hsx⟩;have hx4:x.length<=4:=by omega
            have HR:Hid (∀ (k:Nat) (a:List Rat) (bi:Rat),A[k]?=some a->b[k]?=some bi->∃ s,DotS 0 a x (some s)/\CrS s bi):=hii λ k a bi ha hb => by
             obtain ⟨s,h1,h2⟩:=dot_xb (HW.out.wA a (List.mem_of_getElem? ha)) hxb (by rw [HW.out.rA a (List.mem_of_getElem? ha)]; exact hn4) hx4;exact ⟨s,h1,h2.crS (wh_whole (HW.out.wb bi (List.mem_of_getElem? hb)) HW.out.hK.2) (by decide)⟩
            obtain ⟨sd,hDs,hKs⟩:=dot_xb HW.out.wC hxb (by rw [HW.out.lC]; exact hn4) hx4;have HDs:=hii hDs;have HKs:=hii hKs;have HSd:Hid (sd=Du.dotR C x):=hii (dot_of hDs);have HCs:Hid (CrS sd best):=hii (hKs.crS HK.out (by decide));obtain ⟨c,hc⟩:∃ c,Rq.cmpQ sd best=c:=⟨_,rfl⟩;have Hc:=hii hc;obtain ⟨fb,hfb⟩:∃ fb,fitsB A b x=fb:=⟨_,rfl⟩;have Hfb:=hii hfb;clear hsx hxb hDs hKs hc hfb hlx hx4;go_upto_region 33 with fail
            cases fb
            ·have HI2:=hii (HI.out.out HSC.out Hfb.out);refine wp_region_vals (wx:=w6) [(λ _ v => v=.bool true),(λ _ v => v=.bool true),(λ _ v => v=.agg #[.slice aA m cA,.slice aB m cB,.slice aC n cC]),(λ _ v => v=.slice ax n cx),(λ _ v => v=.bool false),(λ _ v => v=.bool false),(λ _ v => v=.bool false),(λ _ v => v=undef),(λ _ v => v=undef),(λ _ v => v=undef),(λ _ v => v=undef),(λ _ v => v=undef),(λ _ v => v=undef),(λ _ v => v=undef),(λ _ v => v=.bool false)] [116,117,118,119,120,121,122,123,124,125,126,127,128,129,130] (by kernel_rfl) (by kernel_rfl) (by kernel_rfl) (of_decide_eq_true (by kernel_rfl)) br ⟨sV _,sV _,sV _,sV _,sV _,sV _,sV _,sV _,sV _,sV _,sV _,sV _,sV _,sV _,sV _,trivial⟩ ⟨?s0,?s1,?s2,?s3,?s4,?s5,?s6,?s7,?s8,?s9,?s10,?s11,?s12,?s13,?s14,trivial⟩ ?he
             case' s0 | s1 | s2 | s3 | s4 | s5 | s6 | s7 | s8 | s9 | s10 | s11 | s12 | s13 | s14 =>
              rintro T W hb hA K hK
             case' s0 =>
              simp only [ovr,Act.put,sT,sZ,sS] at hK |-
             case' s1 =>
              have e0:T 116=.bool true:=hA.1;simp only [ovr,Act.put,sT,sZ,sS,e0] at hK |-
             case' s3 =>
              have e1:T 117=.bool true:=hA.1;simp only [ovr,Act.put,sT,sZ,sS,e1] at hK |-
             case' s5 =>
              have e1:T 117=.bool true:=hA.1;have e4:T 120=.bool false:=hA.2.1;simp only [ovr,Act.put,sT,sZ,sS,e1,e4] at hK |-
             case' s6 =>
              have e5:T 121=.bool false:=hA.1;simp only [ovr,Act.put,sT,sZ,sS,e5] at hK |-
             case' s14 =>
              have e6:T 122=.bool false:=hA.1;have e13:T 129=undef:=hA.2.1;simp only [ovr,Act.put,sT,sZ,sS,e6,e13] at hK |-
             case' s7 | s9 | s11 =>
              have e6:T 122=.bool false:=hA.1;simp only [ovr,Act.put,sT,sZ,sS,e6] at hK |-
             case' s8 =>
              have e7:T 123=undef:=hA.1;have e6:T 122=.bool false:=hA.2.1;simp only [ovr,Act.put,sT,sZ,sS,e7,e6] at hK |-
             case' s10 =>
              have e8:T 124=undef:=hA.1;have e9:T 125=undef:=hA.2.1;have e6:T 122=.bool false:=hA.2.2.1;simp only [ovr,Act.put,sT,sZ,sS,e8,e9,e6] at hK |-
             case' s12 =>
              have e10:T 126=undef:=hA.1;have e11:T 127=undef:=hA.2.1;have e6:T 122=.bool false:=hA.2.2.2.1;simp only [ovr,Act.put,sT,sZ,sS,e10,e11,e6] at hK |-
             case' s13 =>
              have e12:T 128=undef:=hA.1;have e6:T 122=.bool false:=hA.2.1;simp only [ovr,Act.put,sT,sZ,sS,e12,e6] at hK |-
             case s0 | s1 | s3 | s5 | s6 | s14 =>
              have HK:=hii hK;clear hK hA;refine wO rfl (by rfl) ?_;go_simp;exact HK.out _ _ br (rfl)
             case s7 | s8 | s9 | s10 | s11 | s12 | s13 =>
              have HK:=hii hK;clear hK hA;refine wpOp_pass rfl (by rfl) ?_;simp only [Act.put,List.setIfInBounds_toArray];exact HK.out _ _ br (rfl)
             case s2 =>
              have e1:T 117=.bool true:=hA.1;simp only [ovr,Act.put,sT,sZ,sS,e1] at hK |-;have HK:=hii hK;clear hK hA;obtain ⟨x0,x1,x2⟩:=(rP.below hb).n3;refine wO rfl (by rfl) ?_;go_simp;exact HK.out _ _ br (rfl)
             case s4 =>
              have e2:T 118=.agg #[.slice aA m cA,.slice aB m cB,.slice aC n cC]:=hA.1;have e3:T 119=.slice ax n cx:=hA.2.1;have e1:T 117=.bool true:=hA.2.2.1;simp only [ovr,Act.put,sT,sZ,sS,e2,e3,e1] at hK |-;have HK:=hii hK;clear hK hA;refine wO rfl (by rfl) ?_;go_simp;have HF:=rfits13 A b C x (hii ⟨by rw [HW.out.lA,HW.out.lb]; exact nl,by rw [HW.out.lA]; omega,by rw [Hlx.out]; omega⟩) (hii λ r hr => by rw [HW.out.rA r hr,Hlx.out]) HR aA aB aC ax cA cB cC cx W (hP.1.mono hb) (hP.2.1.mono hb) (hP.2.2.mono hb) (ux.mono hb) (hE.mono hb);rw [HW.out.lA,HW.out.lb,HW.out.lC,Hlx.out,Hfb.out] at HF;(with_reducible refine HF.mono ?_);rintro e w1 ⟨rfl,hb1⟩
              try dsimp only
              exact HK.out _ _ hb1 (rfl)
             case he =>
              rintro T W hb hA;have f14:T 130=.bool false:=hA.at 14 (by decide);simp only [ovr,sT,sZ,sS,f14];have rB:=rB.below hb;have hV:=hV.mono hb;have hbr:=bu hbr hb;clear hA f14;go_wp2;go_roundw
              case rel => exact ⟨t + 1,best,_,_,_,_,_,_,_,_,by omega,by go_num,rB,hV,hii (HI2.out),HK,hbr⟩
              case measure => simp [intOf]; omega
            ·refine wp_region_vals (wx:=w6) [(λ _ v => v=.bool true),(λ _ v => v=.bool true),(λ _ v => v=.agg #[.slice aA m cA,.slice aB m cB,.slice aC n cC]),(λ _ v => v=.slice ax n cx),(λ _ v => v=.bool true),(λ _ v => v=.bool true),(λ _ v => v=.bool true),(λ _ v => v=.pointer (some ⟨g,2,none⟩)),(λ _ v => v=.slice aC n cC),(λ _ v => v=.slice ax n cx),(λ W v => RatV W v sd),(λ _ v => v=.agg #[.bool ng5,.slice ao5 n5 cap5,.bool nh5,.slice ap5 m5 caq5]),(λ _ v => v=.int .i64 c),(λ _ v => v=.bool (decide (0 < c))),(λ _ v => v=.bool (decide (0 < c)))] [116,117,118,119,120,121,122,123,124,125,126,127,128,129,130] (by kernel_rfl) (by kernel_rfl) (by kernel_rfl) (of_decide_eq_true (by kernel_rfl)) br ⟨sV _,sV _,sV _,sV _,sV _,sV _,sV _,sV _,sV _,sV _,λ _ _ _ h hb => h.mono hb,sV _,sV _,sV _,sV _,trivial⟩ ⟨?s0,?s1,?s2,?s3,?s4,?s5,?s6,?s7,?s8,?s9,?s10,?s11,?s12,?s13,?s14,trivial⟩ ?he
             case' s0 | s1 | s2 | s3 | s4 | s5 | s6 | s7 | s8 | s9 | s10 | s11 | s12 | s13 | s14 =>
              rintro T W hb hA K hK
             case' s0 =>
              simp only [ovr,Act.put,sT,sZ,sS] at hK |-
             case' s1 =>
              have e0:T 116=.bool true:=hA.1;simp only [ovr,Act.put,sT,sZ,sS,e0] at hK |-
             case' s3 =>
              have e1:T 117=.bool true:=hA.1;simp only [ovr,Act.put,sT,sZ,sS,e1] at hK |-
             case' s5 =>
              have e1:T 117=.bool true:=hA.1;have e4:T 120=.bool true:=hA.2.1;simp only [ovr,Act.put,sT,sZ,sS,e1,e4] at hK |-
             case' s6 =>
              have e5:T 121=.bool true:=hA.1;simp only [ovr,Act.put,sT,sZ,sS,e5] at hK |-
             case' s7 | s9 =>
              have e6:T 122=.bool true:=hA.1;simp only [ovr,Act.put,sT,sZ,sS,e6] at hK |-
             case' s13 =>
              have e12:T 128=.int .i64 c:=hA.1;have e6:T 122=.bool true:=hA.2.1;simp only [ovr,Act.put,sT,sZ,sS,e12,e6] at hK |-
             case' s14 =>
              have e6:T 122=.bool true:=hA.1;have e13:T 129=.bool (decide (0 < c)):=hA.2.1;simp only [ovr,Act.put,sT,sZ,sS,e6,e13] at hK |-
             case' s2 =>
              have e1:T 117=.bool true:=hA.1;simp only [ovr,Act.put,sT,sZ,sS,e1] at hK |-;have HK:=hii hK;clear hK hA;obtain ⟨x0,x1,x2⟩:=(rP.below hb).n3
             case' s8 =>
              have e7:T 123=.pointer (some ⟨g,2,none⟩):=hA.1;have e6:T 122=.bool true:=hA.2.1;simp only [ovr,Act.put,sT,sZ,sS,e7,e6] at hK |-;have HK:=hii hK;clear hK hA;obtain ⟨x0,x1,x2⟩:=(rP.below hb).n3
             case' s11 =>
              have e6:T 122=.bool true:=hA.1;simp only [ovr,Act.put,sT,sZ,sS,e6] at hK |-;have HK:=hii hK;clear hK hA;obtain ⟨y0,y1,y2,y3⟩:=(rB.below hb).n4
             case s0 | s1 | s3 | s5 | s6 | s7 | s9 | s13 | s14 =>
              have HK:=hii hK;clear hK hA;refine wO rfl (by rfl) ?_;go_simp;exact HK.out _ _ br (rfl)
             case s2 | s8 | s11 =>
              refine wO rfl (by rfl) ?_;go_simp;exact HK.out _ _ br (rfl)
             case s4 =>
              have e2:T 118=.agg #[.slice aA m cA,.slice aB m cB,.slice aC n cC]:=hA.1;have e3:T 119=.slice ax n cx:=hA.2.1;have e1:T 117=.bool true:=hA.2.2.1;simp only [ovr,Act.put,sT,sZ,sS,e2,e3,e1] at hK |-;have HK:=hii hK;clear hK hA;refine wO rfl (by rfl) ?_;go_simp;have HF:=rfits13 A b C x (hii ⟨by rw [HW.out.lA,HW.out.lb]; exact nl,by rw [HW.out.lA]; omega,by rw [Hlx.out]; omega⟩) (hii λ r hr => by rw [HW.out.rA r hr,Hlx.out]) HR aA aB aC ax cA cB cC cx W (hP.1.mono hb) (hP.2.1.mono hb) (hP.2.2.mono hb) (ux.mono hb) (hE.mono hb);rw [HW.out.lA,HW.out.lb,HW.out.lC,Hlx.out,Hfb.out] at HF;(with_reducible refine HF.mono ?_);rintro e w1 ⟨rfl,hb1⟩
              try dsimp only
              exact HK.out _ _ hb1 (rfl)
             case s10 =>
              have e8:T 124=.slice aC n cC:=hA.1;have e9:T 125=.slice ax n cx:=hA.2.1;have e6:T 122=.bool true:=hA.2.2.1;simp only [ovr,Act.put,sT,sZ,sS,e8,e9,e6] at hK |-;have HK:=hii hK;clear hK hA;refine wO rfl (by rfl) ?_;go_simp;have HDt:=rdot13 C x sd aC ax cC cx W (by rw [HW.out.lC]; omega) (by rw [HW.out.lC,Hlx.out]) (hP.2.2.mono hb) (ux.mono hb) HDs (hE.mono hb);rw [HW.out.lC,Hlx.out] at HDt;(with_reducible refine HDt.mono ?_);rintro e w1 ⟨hz,hb1⟩;obtain ⟨ng7,ao7,n7,cap7,nh7,ap7,m7,caq7,rfl,hV7⟩:=hz.rat
              try dsimp only
              exact HK.out _ _ hb1 (hV7)
             case s12 =>
              have r10:((λ W v => RatV W v sd):World->Value->Prop) W (T 126):=hA.1;have e11:T 127=.agg #[.bool ng5,.slice ao5 n5 cap5,.bool nh5,.slice ap5 m5 caq5]:=hA.2.1;have e6:T 122=.bool true:=hA.2.2.2.1;simp only [ovr,Act.put,sT,sZ,sS,e11,e6] at hK |-;have HK:=hii hK;clear hK hA;have r10:RatV W _ sd:=r10;obtain ⟨ng6,ao6,n6,cap6,nh6,ap6,m6,caq6,e10⟩:=r10.parts;rw [e10] at r10;simp only [e10] at HK |-;refine wO rfl (by rfl) ?_;go_simp;(with_reducible refine (rcmp13 _ _ sd best c W r10 (hV.mono hb) HCs Hc (hE.mono hb)).mono ?_);rintro e w1 ⟨rfl,hb1⟩
              try dsimp only
              exact HK.out _ _ hb1 (rfl)
             case he =>
              rintro T W hb hA;have f14:T 130=.bool (decide (0 < c)):=hA.at 14 (by decide);simp only [ovr,sT,sZ,sS,f14];have rB:=rB.below hb;have hV:=hV.mono hb;have hbr:=bu hbr hb;clear hA f14
              by_cases hp:0 < c
              ·have hpd:decide (0 < c)=true:=decide_eq_true hp;rw [hpd];have HI3:Hid (BestI A b C m n (t + 1) sd val):=hii (by rw [HSd.out]; exact HI.out.up HW.out HO.out HSC.out Hfb.out (by rw [<- HSd.out]; exact cmpQ_gt.1 (by rw [Hc.out]; exact hp)));have hP:=hP.mono hb;have hE:=hE.mono hb;have rP:=rP.below hb;have ux:=ux.mono hb;clear hb HCs Hc HI HK hpd hp hV;obtain ⟨w10,rfl⟩:=exi W;have HDt:=rdot13 C x sd aC ax cC cx w10 (by rw [HW.out.lC]; omega) (by rw [HW.out.lC,Hlx.out]) hP.2.2 ux HDs hE;rw [HW.out.lC,Hlx.out] at HDt;obtain ⟨x0,x1,x2⟩:=rP.n3;go_wp2_with fail;(with_reducible refine HDt.mono ?_);rintro e w11 ⟨hz,hb⟩;obtain ⟨ng7,ao7,n7,cap7,nh7,ap7,m7,caq7,rfl,hV7⟩:=hz.rat;have rB:=rB.below hb;have hbr:=bu hbr hb;have hle:w3.heap.size<=gB:=by have:=HgB.out; omega
               clear hb HDt x0 x1 x2;obtain ⟨y0,y1,y2,y3⟩:=rB.n4;have q0:=rB.free 0;have q1:=rB.free 1;have q2:=rB.free 2;have q3:=rB.free 3;have HP4:=hii (put4 rB noL4 hV7);have Hbr:=hii hbr;have Hle:=hii hle;clear rB hV7 hbr hle;go_wp2;go_roundw
               case rel => exact ⟨t + 1,sd,_,_,_,_,_,_,_,_,by omega,by go_num,HP4.out.1,HP4.out.2.1,HI3,HKs,HP4.out.2.2 _ _ Hle.out Hbr.out⟩
               case measure => simp [intOf]; omega
              ·have hpd:decide (0 < c)=false:=decide_eq_false hp;rw [hpd];have HI3:Hid (BestI A b C m n (t + 1) best val):=hii (HI.out.low HSC.out (by rw [<- HSd.out]; exact Rat.not_lt.1 λ h => hp (by rw [<- Hc.out]; exact cmpQ_gt.2 h)));clear HCs Hc HI hpd hp;go_wp2;go_roundw
               case rel => exact ⟨t + 1,best,_,_,_,_,_,_,_,_,by omega,by go_num,rB,hV,hii (HI3.out),HK,hbr⟩
               case measure => simp [intOf]; omega
          ·have HI2:=hii (HI.out.len hln);obtain ⟨q,hq⟩:∃ q,q=(selI t (m + n)).length:=⟨_,rfl⟩;rw [<- hq] at hln eM eN;subst eM;subst eN;have hqn:¬ (q:Int)=(n:Int):=by omega
           clear hq uM uN;go_wp2;go_roundw
           case rel => exact ⟨t + 1,best,_,_,_,_,_,_,_,_,by omega,by go_num,rB,hV,HI2,HK,hbr⟩
           case measure => simp [intOf]; omega
       ·have hte:t=2 ^ (m + n):=by have:=HN.out; omega
        rw [hte] at HI;have hbv:best=val:=BestI.done HW.out HO.out HI.out;rw [hbv] at hV;have rT:=rT.below hbr;have hbw:=bu hbw hbr;have Hle:=Hg2.out;clear HI HK hte hbv;obtain ⟨y0,y1,y2,y3⟩:=rB.n4;obtain ⟨p0,p1,p2,p3⟩:=rT.n4;have q0:=rT.free 0;have q1:=rT.free 1;have q2:=rT.free 2;have q3:=rT.free 3;have HP4:=hii (put4 rT noL4 hV);have Hbw:=hii (HP4.out.2.2 _ _ Hle hbw);clear rB rT hV hbw Hle hbr;go_wp2;obtain ⟨z1,z2,_⟩:=HP4.out;have z3:=Hbw.out;clear y0 y1 y2 y3 HP4 Hbw q0 q1 q2 q3 p0 p1 p2 p3;generalize (((wr.setCell ⟨g2,0,none⟩ (.bool ng5)).setCell ⟨g2,1,none⟩ (.slice ao5 n5 cap5)).setCell ⟨g2,2,none⟩ (.bool nh5)).setCell ⟨g2,3,none⟩ (.slice ap5 m5 caq5)=w9 at *;obtain ⟨p0,p1,p2,p3⟩:=Row.n4 z1;refine bodyPost_ret (v:=.agg #[.bool ng5,.slice ao5 n5 cap5,.bool nh5,.slice ap5 m5 caq5]) (by simp [results,Tryz.results19,go_sem,p0,p1,p2,p3]) rfl ⟨?_,z3⟩;obtain ⟨_,_,_,_,_,_,_,_,e9,k1,k2⟩:=z2
        cases e9
        exact ⟨_,_,_,_,_,_,_,_,rfl,hii k1,hii k2⟩
end Go.Proofs.YtileholjbdhmjaaGreatDoor
