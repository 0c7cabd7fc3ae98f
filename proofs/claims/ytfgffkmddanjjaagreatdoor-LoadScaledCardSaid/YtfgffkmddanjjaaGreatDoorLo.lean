/-
  load: ordered shares, proved loads.
-/
import Derived.Test.YtfgffkmddanjjaaGreatDoorLn
import Derived.Test.YtfgffkmddanjjaaGreatDoorFlowX
set_option linter.unusedVariables false
set_option linter.unusedSimpArgs false
set_option maxRecDepth 100000
set_option maxHeartbeats 25600000
namespace Go.Proofs.YtfgffkmddanjjaaGreatDoor
open _root_.Go.Proofs.Tryz
open Go.RowKit
theorem ifz {W:World} {a b c d:Int} {z:Bool} (h:((a == b) && (c == d))=z):(if a=b then if c=d then Result.ok (Next.value (Value.bool true)) W else Result.ok (Next.value (Value.bool false)) W else Result.ok (Next.value (Value.bool false)) W)=Result.ok (Next.value (Value.bool z)) W:=by
 rw [<- h]
 by_cases h1:a=b <;> by_cases h2:c=d <;> simp [h1,h2]
def zn9 (l:List (Nat × Nat)) (sh:List ((Nat × Nat) × Rat)):Prop:=∃ at_:Nat->Nat,(∀ (j:Nat) (s:(Nat × Nat) × Rat),sh[j]?=some s->zfD (λ p => decide (p=s.1)) l=(at_ j:Int)/\0 < s.2)/\∀ j,j + 1 < sh.length->at_ j < at_ (j + 1)
def zhC (at_:Nat->Nat) (j:Nat):Int:=if j=0 then -1 else (at_ (j - 1):Int)
def pS (f:Rat) (Qs:List Rat) (q:Nat × Nat) (j:Nat):Rat:=zbM ((List.range j).map λ i => Qs.getD i 0 * wt f q i)
theorem zlq (f:Rat) (Qs:List Rat) (q:Nat × Nat) (j:Nat):pS f Qs q (j + 1)=pS f Qs q j + Qs.getD j 0 * wt f q j:=by
 unfold pS;rw [List.range_succ,List.map_append];exact zb1 _ _
structure zn8 (l:List (Nat × Nat)) (f:Rat) (cap Qs:List Rat) (m:Nat) (ld:Rat):Prop where
 lQ:Qs.length=m
 lc:cap.length=m
 pos:∀ x∈Qs,0<=x
 one:zhP 0 Qs cap (some 1)
 step:∀ q∈l,∀ j,j < m->zdH (Qs.getD j 0) (wt f q j)/\zeb (pS f Qs q j) (Qs.getD j 0 * wt f q j)
 ge:∀ q∈l,ld<=pS f Qs q m/\CrS (pS f Qs q m) ld
theorem zfB (l:List (Nat × Nat)) (q:Nat × Nat) (aa:Option Addr) (ca:Nat) (w:World) (hl:l.length<=1000000) (ua:EU 2 zhL w aa l) :
  Calls Tryz.prog 124 #[.slice aa l.length ca,.agg #[.int .u16 (q.1:Nat),.int .u16 (q.2:Nat)]] w λ e w' => e=.returned (.int .i64 (zfD (λ y => decide (y=q)) l))/\BH w w':=by
 have hbw:=Below.refl w.heap.size w;go_enter func124,ntmps124;go_upto_region 1 with fail;obtain ⟨w1,g3,hw9,hg9,hb,r3⟩:=bxr w [.int .u16 (q.1:Nat),.int .u16 (q.2:Nat)] 115;rw [<- hw9,<- hg9];have Hg3:Hid (w.heap.size<=g3):=hii (by have:=hbw.size; omega);clear hw9 hg9;have ua:=ua.mono zbl hb;have hbw:=bu hbw hb;clear hb;go_wp2_with fail;go_loopw [8] (λ s wr => ∃ k:Nat,k<=l.length/\s=.int .i64 k/\Hid (∀ y∈l.take k,decide (y=q)=false)/\BH w1 wr) (λ s _ => l.length - (intOf s).toNat)
 case atStart => exact ⟨0,Nat.zero_le _,rfl,hii (by simp),br⟩
 case round =>
  obtain ⟨k,hk,rfl,HN,hbr⟩:=hrel
  by_cases hlt:k < l.length
  ·obtain ⟨x,hx⟩:∃ x,l[k]?=some x:=⟨l[k],gE hlt⟩;obtain ⟨b1,off1,c,ea,hck,hcs,hcq⟩:=(ua.mono zbl hbr) k x hx;have hc0:=hcs 0 (.int .u16 (x.1:Nat)) (by rw [hcq]; rfl);have hc1:=hcs 1 (.int .u16 (x.2:Nat)) (by rw [hcq]; rfl);rw [Nat.add_zero] at hc0;rw [<- Nat.add_assoc] at hc1;have Hx:=hii hx;have r3:=r3.below hbr;subst ea;clear hx hck hcs hcq ua;have hkl:(k:Int) < (l.length:Int):=by omega
   obtain ⟨z,hz⟩:∃ z,(((q.1:Int) == (x.1:Int)) && ((q.2:Int) == (x.2:Int)))=z:=⟨_,rfl⟩;have Hzz:=hii hz;have Hz:Hid (z=decide (x=q)):=hii (by
    rw [<- hz,Bool.eq_iff_iff,decide_eq_true_iff,Bool.and_eq_true,beq_iff_eq,beq_iff_eq,Prod.ext_iff]
    constructor
    ·rintro ⟨h1,h2⟩; exact ⟨by omega,by omega⟩
    ·rintro ⟨h1,h2⟩; exact ⟨by omega,by omega⟩)
   clear hz;go_upto_region 4 with fail;refine zae (wx:=wr) [vf (.agg #[.int .u16 (q.1:Nat),.int .u16 (q.2:Nat)]),vf (.slice (some ⟨b1,off1,none⟩) l.length ca),vf (.int .i64 k),vf (.pointer (some ⟨b1,off1 + k * 2,none⟩)),vf (.agg #[.int .u16 (x.1:Nat),.int .u16 (x.2:Nat)]),vf (.bool z)] [11,12,13,14,15,16] (by kernel_rfl) (by kernel_rfl) (by kernel_rfl) (of_decide_eq_true (by kernel_rfl)) br ⟨sV _,sV _,sV _,sV _,sV _,sV _,trivial⟩ ⟨?s0,?s1,?s2,?s3,?s4,?s5,trivial⟩ ?he
   case' s0 | s1 | s2 | s3 | s4 | s5 =>
    rintro T W hb hA K hK
   case' s0 =>
    simp only [sA] at hK |-;have HK:=hii hK;clear hK hA;have d0:=(r3.below hb).cell (k:=0) (by simp);have d1:=(r3.below hb).cell (k:=1) (by simp);simp only [List.getElem_cons_zero,List.getElem_cons_succ] at d0 d1
   case' s4 =>
    have e3:T 14=_:=hA.1;simp only [sA,e3] at hK |-;have HK:=hii hK;clear hK hA;have h0:=(hb.cell (zag hc0)).trans hc0;have h1:=(hb.cell (zag hc1)).trans hc1
   case' s1 | s2 =>
    simp only [sA] at hK |-
   case' s3 =>
    have e1:T 12=_:=hA.1;have e2:T 13=_:=hA.2.1;simp only [sA,e1,e2] at hK |-
   case s0 | s4 =>
    refine wO rfl (by rfl) ?_;go_simp;exact HK.out _ _ br (rfl)
   case s1 | s2 | s3 =>
    have HK:=hii hK;clear hK hA;refine wO rfl (by rfl) ?_;go_simp;exact HK.out _ _ br (rfl)
   case s5 =>
    have e0:T 11=_:=hA.1;have e4:T 15=_:=hA.2.1;simp only [sA,e0,e4] at hK |-;have HK:=hii hK;clear hK hA;refine wO rfl (by rfl) ?_;go_simp;have hb1:=Below.refl W.heap.size W;rw [ifz Hzz.out]
    try dsimp only
    exact HK.out _ _ hb1 (rfl)
   case he =>
    rintro T W hb hA;have f5:T 16=.bool z:=hA.at 5 (by decide);simp only [sA,f5];have hbr:=bu hbr hb;clear hA f5 Hzz
    cases z with
    | true =>
     have hxq:x=q:=of_decide_eq_true Hz.out.symm;have Hxq:=hii (decide_eq_true hxq);clear hxq;go_wp2;go_ret;exact ⟨by rw [zcG Hx.out Hxq.out HN.out]; rfl,bu hbw hbr⟩
    | false =>
     go_wp2;go_roundw
     case rel =>
      refine ⟨k + 1,by omega,by go_num,hii λ y hy => ?_,hbr⟩;rw [zaH Hx.out] at hy;rcases List.mem_append.1 hy with h | h
      ·exact HN.out y h
      ·simp at h; subst h; exact Hz.out.symm
     case measure => simp [intOf]; omega
  ·obtain rfl:k=l.length:=by omega
   go_wp2;go_ret;exact ⟨by rw [zb3 (λ x hx => HN.out x (by rw [List.take_length]; exact hx))]; rfl,bu hbw hbr⟩
theorem zhs (g:Nat) (R S:List Nat) (f:Rat) (cap:List Rat) (sh:List ((Nat × Nat) × Rat)) (aL:Option Addr) (cL:Nat) (w:World) (hR:R.length<=900) (hS:S.length<=1000) (hRS:R.length * S.length<=1000) (hsl:sh.length<=1000) (hO:Hid (zn9 (prs R S) sh)) (hW:zdz w g R S f cap) (uL:EU 6 zcK w aL (shQ sh)) (hE:Env w) :
  Calls Tryz.prog 72 #[.pointer (some ⟨g,0,none⟩),.slice aL sh.length cL] w λ e w' => e=.returned (.bool true)/\BH w w':=by
 have hbw:=Below.refl w.heap.size w;obtain ⟨l,hl⟩:∃ l,prs R S=l:=⟨_,rfl⟩;have Hln:Hid (l.length<=1000):=hii (by rw [<- hl,zbK]; exact hRS);have HPr:=zc9 g R S f cap w hR hS hW;rw [hl] at HPr hO;obtain ⟨at_,HA,HI⟩:=hO.out;have HA:=hii HA;have HI:=hii HI;obtain ⟨N,hN⟩:∃ N,sh.length=N:=⟨_,rfl⟩;have HN:=hii hN;rw [hN] at hsl |-;clear hl hN hRS hO;go_enter func72,ntmps72;go_wp2_with fail;(with_reducible refine HPr.mono ?_);rintro e w1 ⟨⟨v,rfl,hOl⟩,hb⟩;obtain ⟨al,cl,rfl,-,uP⟩:=hOl.read;have hE:=hE.mono hb;have uL:=uL.mono zan hb;have hbw:=bu hbw hb;clear hb hOl HPr hW;go_wp2_with fail;go_loopw [6,14] (λ v s wr => ∃ j:Nat,j<=N/\s=.int .i64 j/\v=.int .i64 (zhC at_ j)/\BH w1 wr) (λ _ s _ => N - (intOf s).toNat)
 case atStart => exact ⟨0,Nat.zero_le _,rfl,rfl,br⟩
 case round =>
  obtain ⟨j,hj,rfl,rfl,hbr⟩:=hrel
  by_cases hlj:j < N
  ·obtain ⟨⟨⟨r,s⟩,x⟩,hx⟩:∃ x,sh[j]?=some x:=⟨sh[j]'(by rw [HN.out]; exact hlj),gE _⟩;obtain ⟨Hat,hx0⟩:=HA.out j _ hx;have Hx0:=hii hx0;have hla:zhC at_ j < (at_ j:Int):=by
    unfold zhC
    split
    ·omega
    ·have:=HI.out (j - 1) (by rw [HN.out]; omega);rw [show j - 1 + 1=j by omega] at this;omega
   have HLa:Hid (zhC at_ (j + 1)=(at_ j:Int)):=hii (by unfold zhC; rw [if_neg (by omega),Nat.add_sub_cancel]);obtain ⟨la,hla2⟩:∃ a,zhC at_ j=a:=⟨_,rfl⟩;obtain ⟨a,ha2⟩:∃ a,at_ j=a:=⟨_,rfl⟩;rw [hla2,ha2] at hla;rw [ha2] at HLa Hat;rw [hla2];clear hla2 ha2;have hxL:(shQ sh)[j]?=some ((r,s),some x):=by unfold shQ; rw [List.getElem?_map,hx]; rfl
   obtain ⟨b1,off1,J1,ao1,n1,Y1,K1,ap1,m1,Z1,ea,hv,h0,h1,h2,h3,h4,h5⟩:=(uL.mono zan hbr).six hxL;have hv:zac wr (qA J1 ao1 n1 Y1 K1 ap1 m1 Z1) x:=hv;have HC0:=hii hv.cr01.1;have hEk:=hE.mono hbr;have hjN:(j:Int) < (N:Int):=by omega
   subst ea;clear hx hxL hx0;go_upto_region 6 with fail;clear h0 h1 h2 h3 h4 h5;have hb:=bA wr (.cells #[.int .u16 (r:Nat),.int .u16 (s:Nat),.bool J1,.slice ao1 n1 Y1,.bool K1,.slice ap1 m1 Z1] 59);have r8:Row (wr.alloc (.cells #[.int .u16 (r:Nat),.int .u16 (s:Nat),.bool J1,.slice ao1 n1 Y1,.bool K1,.slice ap1 m1 Z1] 59)) wr.heap.size 59 [.int .u16 (r:Nat),.int .u16 (s:Nat),.bool J1,.slice ao1 n1 Y1,.bool K1,.slice ap1 m1 Z1]:=heap_alloc_new _ _;obtain ⟨g8,hg⟩:∃ g,g=wr.heap.size:=⟨_,rfl⟩;rw [<- hg] at r8 |-;clear hg;generalize wr.alloc (.cells #[.int .u16 (r:Nat),.int .u16 (s:Nat),.bool J1,.slice ao1 n1 Y1,.bool K1,.slice ap1 m1 Z1] 59)=wc at *;have hv:=hv.mono hb;have hEk:=hEk.mono hb;have hbr:=bu hbr hb;clear hb;have HIx:=hii (zfB l (r,s) al cl wc (by have:=Hln.out; omega) (uP.mono zbl hbr));rw [Hat] at HIx;obtain ⟨k0,k1,-,-,-,-⟩:=r8.n6;clear Hat;go_wp2_with fail;(with_reducible refine HIx.out.mono ?_);rintro e wd ⟨rfl,hb⟩;have hv:=hv.mono hb;have hEk:=hEk.mono hb;have r8:=r8.below hb;have hbr:=bu hbr hb;clear hb k0 k1 HIx;have hd:decide ((a:Int)<=la)=false:=decide_eq_false (by omega);go_upto_region 7 with fail;refine zae (wx:=wd) [vf (.int .i64 (a:Nat)),vf (.int .i64 la),vf (.bool false),vf (.bool false),vf (.pointer (some ⟨g8,2,none⟩)),vf (.agg #[.bool J1,.slice ao1 n1 Y1,.bool K1,.slice ap1 m1 Z1]),vf (.bool true),vf (.bool false),vf (.bool false),vf (.bool false),vf (.pointer (some ⟨g8,2,none⟩)),vf (.agg #[.bool J1,.slice ao1 n1 Y1,.bool K1,.slice ap1 m1 Z1]),(λ W v => zac W v 0),vf (.int .i64 1),vf (.bool false),vf (.bool false)] [25,26,27,28,29,30,31,32,33,34,35,36,37,38,39,40] (by kernel_rfl) (by kernel_rfl) (by kernel_rfl) (of_decide_eq_true (by kernel_rfl)) br ⟨sV _,sV _,sV _,sV _,sV _,sV _,sV _,sV _,sV _,sV _,sV _,sV _,(λ _ _ _ h hb => h.mono hb),sV _,sV _,sV _,trivial⟩ ⟨?s0,?s1,?s2,?s3,?s4,?s5,?s6,?s7,?s8,?s9,?s10,?s11,?s12,?s13,?s14,?s15,trivial⟩ ?he
   case' s0 | s1 | s2 | s3 | s4 | s5 | s6 | s7 | s8 | s9 | s10 | s11 | s12 | s13 | s14 | s15 =>
    rintro T W hb hA K hK
   case' s0 | s1 =>
    simp only [sA] at hK |-
   case' s2 =>
    have e0:T 25=_:=hA.1;have e1:T 26=_:=hA.2.1;simp only [sA,e0,e1] at hK |-
   case' s3 =>
    have e2:T 27=_:=hA.1;simp only [sA,e2] at hK |-
   case' s4 =>
    have e3:T 28=_:=hA.1;simp only [sA,e3] at hK |-
   case' s7 =>
    have e6:T 31=_:=hA.1;have e3:T 28=_:=hA.2.1;simp only [sA,e6,e3] at hK |-
   case' s8 =>
    have e3:T 28=_:=hA.1;have e7:T 32=_:=hA.2.1;simp only [sA,e3,e7] at hK |-
   case' s9 =>
    have e8:T 33=_:=hA.1;simp only [sA,e8] at hK |-
   case' s10 =>
    have e9:T 34=_:=hA.1;simp only [sA,e9] at hK |-
   case' s14 =>
    have e13:T 38=_:=hA.1;have e9:T 34=_:=hA.2.1;simp only [sA,e13,e9] at hK |-
   case' s15 =>
    have e9:T 34=_:=hA.1;have e14:T 39=_:=hA.2.1;simp only [sA,e9,e14] at hK |-
   case' s5 =>
    have e4:T 29=_:=hA.1;have e3:T 28=_:=hA.2.1;simp only [sA,e4,e3] at hK |-;have HK:=hii hK;clear hK hA;obtain ⟨h0,h1,h2,h3,h4,h5⟩:=(r8.below hb).n6
   case' s11 =>
    have e10:T 35=_:=hA.1;have e9:T 34=_:=hA.2.1;simp only [sA,e10,e9] at hK |-;have HK:=hii hK;clear hK hA;obtain ⟨h0,h1,h2,h3,h4,h5⟩:=(r8.below hb).n6
   case s0 | s1 | s2 | s3 | s4 | s7 | s8 | s9 | s10 | s14 | s15 =>
    have HK:=hii hK;clear hK hA;refine wO rfl (by rfl) ?_;go_simp;exact HK.out _ _ br (rfl)
   case s5 | s11 =>
    refine wO rfl (by rfl) ?_;go_simp;exact HK.out _ _ br (rfl)
   case s6 =>
    have e5:T 30=_:=hA.1;have e3:T 28=_:=hA.2.1;simp only [sA,e5,e3] at hK |-;have HK:=hii hK;clear hK hA;refine wO rfl (by rfl) ?_;go_simp;go_fit (zau _ x W (hv.mono hb) (hEk.mono hb));rintro e w1 ⟨rfl,hb1⟩
    try dsimp only
    exact HK.out _ _ hb1 (rfl)
   case s12 =>
    have e9:T 34=_:=hA.1;simp only [sA,e9] at hK |-;have HK:=hii hK;clear hK hA;refine wO rfl (by rfl) ?_;go_simp;go_fit (zaF 0 (by decide) (by decide) W (hEk.mono hb));rintro e w1 ⟨hz,hb1⟩;obtain ⟨J7,ao7,n7,Y7,K7,ap7,m7,Z7,rfl,hV7⟩:=hz.rat;have hV7:zac w1 (qA J7 ao7 n7 Y7 K7 ap7 m7 Z7) 0:=hV7
    try dsimp only
    exact HK.out _ _ hb1 (hV7)
   case s13 =>
    have e11:T 36=_:=hA.1;have r12:(_:World->Value->Prop) W (T 37):=hA.2.1;have e9:T 34=_:=hA.2.2.2.1;simp only [sA,e11,e9] at hK |-;have HK:=hii hK;clear hK hA;have r12:zac W _ 0:=r12;obtain ⟨J6,ao6,n6,Y6,K6,ap6,m6,Z6,e12⟩:=r12.parts;rw [e12] at r12;simp only [e12] at HK |-;refine wO rfl (by rfl) ?_;go_simp;go_fit (zaT _ _ x 0 W (hv.mono hb) r12 HC0 (hEk.mono hb));rw [ziW Hx0.out];rintro e w1 ⟨rfl,hb1⟩
    try dsimp only
    exact HK.out _ _ hb1 (rfl)
   case he =>
    rintro T W hb hA;have f15:T 40=.bool false:=hA.at 15 (by decide);simp only [sA,f15];have hbr:=bu hbr hb;clear hA f15 hd;go_wp2;go_roundw
    case rel => exact ⟨j + 1,by omega,by go_num,by rw [HLa.out],hbr⟩
    case measure => simp [intOf]; omega
  ·obtain rfl:j=N:=by omega
   go_wp2;go_ret;exact ⟨rfl,bu hbw hbr⟩
theorem zhq (v:Value) (x:Rat) (w:World) (hv:zac w v x) (hx:Hid (0<=x)) (hE:Env w) :
  Calls Tryz.prog 125 #[v] w λ e w' => e=.returned (.bool false)/\BH w w':=by
 have hbw:=Below.refl w.heap.size w;obtain ⟨J1,ao1,n1,Y1,K1,ap1,m1,Z1,rfl⟩:=hv.parts;obtain ⟨cc,hcc⟩:∃ c,Rq.cmpQ x 0=c:=⟨_,rfl⟩;have Hcc:=hii hcc;have hd:decide (cc < 0)=false:=decide_eq_false (by rw [<- hcc]; have:=zeK hx.out; omega);clear hcc;go_enter func125,ntmps125;go_upto_region 1 with fail;obtain ⟨wa,g1,hw9,hg9,hb,r1⟩:=bxr w [.bool J1,.slice ao1 n1 Y1,.bool K1,.slice ap1 m1 Z1] 32;rw [<- hw9,<- hg9];have Hg1:Hid (w.heap.size<=g1):=hii (by have:=hbw.size; omega);clear hw9 hg9;have hv:=hv.mono hb;have hE:=hE.mono hb;have hbw:=bu hbw hb;clear hb;have HC0:=hii hv.cr01.1;refine zae (wx:=wa) [vf (.agg #[.bool J1,.slice ao1 n1 Y1,.bool K1,.slice ap1 m1 Z1]),vf (.bool true),vf (.bool false),vf (.bool false),vf (.agg #[.bool J1,.slice ao1 n1 Y1,.bool K1,.slice ap1 m1 Z1]),(λ W v => zac W v 0),vf (.int .i64 cc),vf (.bool false),vf (.bool false),vf (.bool false)] [3,4,5,6,7,8,9,10,11,2] (by kernel_rfl) (by kernel_rfl) (by kernel_rfl) (of_decide_eq_true (by kernel_rfl)) br ⟨sV _,sV _,sV _,sV _,sV _,(λ _ _ _ h hb => h.mono hb),sV _,sV _,sV _,sV _,trivial⟩ ⟨?s0,?s1,?s2,?s3,?s4,?s5,?s6,?s7,?s8,?s9,trivial⟩ ?he
 case' s0 | s1 | s2 | s3 | s4 | s5 | s6 | s7 | s8 | s9 =>
  rintro T W hb hA K hK
 case' s0 =>
  simp only [sA] at hK |-;have HK:=hii hK;clear hK hA;obtain ⟨k0,k1,k2,k3⟩:=(r1.below hb).n4
 case' s4 =>
  have e3:T 6=_:=hA.1;simp only [sA,e3] at hK |-;have HK:=hii hK;clear hK hA;obtain ⟨k0,k1,k2,k3⟩:=(r1.below hb).n4
 case' s2 =>
  have e1:T 4=_:=hA.1;simp only [sA,e1] at hK |-
 case' s3 =>
  have e2:T 5=_:=hA.1;simp only [sA,e2] at hK |-
 case' s7 =>
  have e6:T 9=_:=hA.1;have e3:T 6=_:=hA.2.1;simp only [sA,e6,e3] at hK |-
 case' s8 =>
  have e3:T 6=_:=hA.1;have e7:T 10=_:=hA.2.1;simp only [sA,e3,e7] at hK |-
 case' s9 =>
  have e8:T 11=_:=hA.1;simp only [sA,e8] at hK |-
 case s0 | s4 =>
  refine wO rfl (by rfl) ?_;go_simp;exact HK.out _ _ br (rfl)
 case s2 | s3 | s7 | s8 | s9 =>
  have HK:=hii hK;clear hK hA;refine wO rfl (by rfl) ?_;go_simp;exact HK.out _ _ br (rfl)
 case s1 =>
  have e0:T 3=_:=hA.1;simp only [sA,e0] at hK |-;have HK:=hii hK;clear hK hA;refine wO rfl (by rfl) ?_;go_simp;go_fit (zau _ x W (hv.mono hb) (hE.mono hb));rintro e w1 ⟨rfl,hb1⟩
  try dsimp only
  exact HK.out _ _ hb1 (rfl)
 case s5 =>
  have e3:T 6=_:=hA.1;simp only [sA,e3] at hK |-;have HK:=hii hK;clear hK hA;refine wO rfl (by rfl) ?_;go_simp;go_fit (zaF 0 (by decide) (by decide) W (hE.mono hb));rintro e w1 ⟨hz,hb1⟩;obtain ⟨J7,ao7,n7,Y7,K7,ap7,m7,Z7,rfl,hV7⟩:=hz.rat;have hV7:zac w1 (qA J7 ao7 n7 Y7 K7 ap7 m7 Z7) 0:=hV7
  try dsimp only
  exact HK.out _ _ hb1 (hV7)
 case s6 =>
  have e4:T 7=_:=hA.1;have r5:(_:World->Value->Prop) W (T 8):=hA.2.1;have e3:T 6=_:=hA.2.2.2.1;simp only [sA,e4,e3] at hK |-;have HK:=hii hK;clear hK hA;have r5:zac W _ 0:=r5;obtain ⟨J6,ao6,n6,Y6,K6,ap6,m6,Z6,e5⟩:=r5.parts;rw [e5] at r5;simp only [e5] at HK |-;refine wO rfl (by rfl) ?_;go_simp;go_fit (zaT _ _ x 0 W (hv.mono hb) r5 HC0 (hE.mono hb));rw [Hcc.out];rintro e w1 ⟨rfl,hb1⟩
  try dsimp only
  exact HK.out _ _ hb1 (rfl)
 case he =>
  rintro T W hb hA;have f9:T 2=.bool false:=hA.at 9 (by decide);simp only [sA,f9];have hbw:=bu hbw hb;clear hA f9;go_wp2;go_ret;exact ⟨rfl,hbw⟩
theorem zik (g:Nat) (R S:List Nat) (f:Rat) (cap Qs:List Rat) (m:Nat) (ld:Rat) (vl:Value) (aQ:Option Addr) (cQ:Nat) (w:World) (hR:R.length<=900) (hS:S.length<=1000) (hRS:R.length * S.length<=1000) (hm:m<=12) (h16:Hid (zaJ R/\zaJ S)) (hP:Hid (zn8 (prs R S) f cap Qs m ld)) (hW:zdz w g R S f cap) (hl:zac w vl ld) (uQ:UQ w aQ (Qs.map some)) (hE:Env w) :
  Calls Tryz.prog 74 #[.pointer (some ⟨g,0,none⟩),vl,.slice aQ m cQ] w λ e w' => e=.returned (.bool true)/\BH w w':=by
 have hbw:=Below.refl w.heap.size w;obtain ⟨J1,ao1,n1,Y1,K1,ap1,m1,Z1,rfl⟩:=hl.parts;have HQl:Hid (Qs.length=m):=hii hP.out.lQ;have HCl:Hid (cap.length=m):=hii hP.out.lc;obtain ⟨l,hll⟩:∃ l,prs R S=l:=⟨_,rfl⟩;have HP16:Hid (∀ q∈l,q.1 < 65536/\q.2 < 65536):=hii λ q hq => by
  rw [<- hll] at hq;exact ⟨h16.out.1 _ (zbJ hq).1,h16.out.2 _ (zbJ hq).2⟩
 have hln:l.length<=1000:=by rw [<- hll,zbK]; exact hRS
 have HPr:=hii (λ w hW => zc9 g R S f cap w hR hS hW);rw [hll] at HPr hP;obtain ⟨n,hn⟩:∃ n,l.length=n:=⟨_,rfl⟩;have Hn:=hii hn;rw [hn] at hln;clear hll hn hRS;go_enter func74,ntmps74;go_upto_region 1 with fail;obtain ⟨w1,g4,hw9,hg9,hb,r4⟩:=bxr w [.bool J1,.slice ao1 n1 Y1,.bool K1,.slice ap1 m1 Z1] 32;rw [<- hw9,<- hg9];have Hg4:Hid (w.heap.size<=g4):=hii (by have:=hbw.size; omega);clear hw9 hg9;have hW:=hW.mono hb;have hl:=hl.mono hb;have uQ:=uQ.mono hb;have hE:=hE.mono hb;have hbw:=bu hbw hb;clear hb;have eg:∀ args w,(callFunc 125 args).run Tryz.prog w=.ok (.enter 125 args) w:=enters_of func125 (by kernel_rfl) rfl;have HK:=zba 125 #[] (λ _ => false) eg (Qs.map some) aQ cQ w1 (by rw [List.length_map,HQl.out]; omega) uQ hE (λ o v W ho hv hEW hb => by
  obtain ⟨r,hr,rfl⟩:=List.mem_map.1 ho;exact zhq v r W hv (hii (hP.out.pos r hr)) hEW)
 rw [List.length_map,HQl.out,show ((Qs.map (some:Rat->Qo)).any λ _ => false)=false from List.any_eq_false.2 λ _ _ => by simp] at HK;have hW9:=hW;obtain ⟨aR,cR,aS,cS,J5,ao5,n5,Y5,K5,ap5,m5,Z5,J6,ao6,n6,Y6,K6,ap6,m6,Z6,aC,cC,rW,-,-,-,-,uC⟩:=hW9;rw [HCl.out] at rW;obtain ⟨-,-,-,-,-,-,-,-,-,-,k10⟩:=rW.n11;go_wp2_with fail;(with_reducible refine HK.mono ?_);rintro e w2 ⟨rfl,hb⟩;have hW:=hW.mono hb;have hl:=hl.mono hb;have uQ:=uQ.mono hb;have uC:=uC.mono hb;have hE:=hE.mono hb;have r4:=r4.below hb;have rW:=rW.below hb;have hbw:=bu hbw hb;clear hb;clear HK k10 eg;have HD:=zmb Qs cap (some 1) aQ aC cQ cC w2 (by rw [HQl.out]; omega) (by rw [HQl.out,HCl.out]) uQ uC (hii hP.out.one) hE;rw [HQl.out,HCl.out] at HD;obtain ⟨-,-,-,-,-,-,-,-,-,-,k10⟩:=rW.n11;go_wp2_with fail;(with_reducible refine HD.mono ?_);rintro e w3 ⟨hz,hb⟩;have hz:zcL w3 1 e:=hz;obtain ⟨J2,ao2,n2,Y2,K2,ap2,m2,Z2,rfl,hV1⟩:=hz.rat;have hW:=hW.mono hb;have hl:=hl.mono hb;have uQ:=uQ.mono hb;have hE:=hE.mono hb;have r4:=r4.below hb;have hbw:=bu hbw hb;clear hb;clear HD hz k10 uC rW;go_upto_region 4 with fail;obtain ⟨w4,g7,hw9,hg9,hb,r7⟩:=bxr w3 [.bool J2,.slice ao2 n2 Y2,.bool K2,.slice ap2 m2 Z2] 32;rw [<- hw9,<- hg9];have Hg7:Hid (w.heap.size<=g7):=hii (by have:=hbw.size; omega);clear hw9 hg9;have hV1:=hV1.mono hb;have hW:=hW.mono hb;have hl:=hl.mono hb;have uQ:=uQ.mono hb;have hE:=hE.mono hb;have r4:=r4.below hb;have hbw:=bu hbw hb;clear hb;refine zae (wx:=w4) [vf (.int .i64 0),vf (.bool false),vf (.bool false),vf (.agg #[.bool J2,.slice ao2 n2 Y2,.bool K2,.slice ap2 m2 Z2]),(λ W v => zac W v 1),vf (.int .i64 0),vf (.bool false),vf (.bool false)] [35,36,37,38,39,40,41,42] (by kernel_rfl) (by kernel_rfl) (by kernel_rfl) (of_decide_eq_true (by kernel_rfl)) br ⟨sV _,sV _,sV _,sV _,(λ _ _ _ h hb => h.mono hb),sV _,sV _,sV _,trivial⟩ ⟨?s0,?s1,?s2,?s3,?s4,?s5,?s6,?s7,trivial⟩ ?he
 case' s0 | s1 | s2 | s3 | s4 | s5 | s6 | s7 =>
  rintro T W hb hA K hK
 case' s0 =>
  simp only [sA] at hK |-
 case' s1 =>
  have e0:T 35=_:=hA.1;simp only [sA,e0] at hK |-
 case' s2 =>
  have e1:T 36=_:=hA.1;simp only [sA,e1] at hK |-
 case' s6 =>
  have e5:T 40=_:=hA.1;have e2:T 37=_:=hA.2.1;simp only [sA,e5,e2] at hK |-
 case' s7 =>
  have e2:T 37=_:=hA.1;have e6:T 41=_:=hA.2.1;simp only [sA,e2,e6] at hK |-
 case s0 | s1 | s2 | s6 | s7 =>
  have HK:=hii hK;clear hK hA;refine wO rfl (by rfl) ?_;go_simp;exact HK.out _ _ br (rfl)
 case s3 =>
  have e2:T 37=_:=hA.1;simp only [sA,e2] at hK |-;have HK:=hii hK;clear hK hA;obtain ⟨k0,k1,k2,k3⟩:=(r7.below hb).n4;refine wO rfl (by rfl) ?_;go_simp;exact HK.out _ _ br (rfl)
 case s4 =>
  have e2:T 37=_:=hA.1;simp only [sA,e2] at hK |-;have HK:=hii hK;clear hK hA;refine wO rfl (by rfl) ?_;go_simp;go_fit (zaF 1 (by decide) (by decide) W (hE.mono hb));rintro e w1 ⟨hz,hb1⟩;obtain ⟨J7,ao7,n7,Y7,K7,ap7,m7,Z7,rfl,hV7⟩:=hz.rat;have hV7:zac w1 (qA J7 ao7 n7 Y7 K7 ap7 m7 Z7) 1:=hV7
  try dsimp only
  exact HK.out _ _ hb1 (hV7)
 case s5 =>
  have e3:T 38=_:=hA.1;have r4:(_:World->Value->Prop) W (T 39):=hA.2.1;have e2:T 37=_:=hA.2.2.2.1;simp only [sA,e3,e2] at hK |-;have HK:=hii hK;clear hK hA;have r4:zac W _ 1:=r4;obtain ⟨J6,ao6,n6,Y6,K6,ap6,m6,Z6,e4⟩:=r4.parts;rw [e4] at r4;simp only [e4] at HK |-;refine wO rfl (by rfl) ?_;go_simp;go_fit (zaT _ _ 1 1 W (hV1.mono hb) r4 (hii hV1.cr01.2) (hE.mono hb));rw [show Rq.cmpQ 1 1=0 from rfl];rintro e w1 ⟨rfl,hb1⟩
  try dsimp only
  exact HK.out _ _ hb1 (rfl)
 case he =>
  rintro T W hb hA;have f7:T 42=.bool false:=hA.at 7 (by decide);simp only [sA,f7];have hW:=hW.mono hb;have hl:=hl.mono hb;have uQ:=uQ.mono hb;have hE:=hE.mono hb;have r4:=r4.below hb;have hbw:=bu hbw hb;clear hb;clear hA f7 r7 hV1;obtain ⟨w5,rfl⟩:=exi W;go_wp2_with fail;go_fit (HPr.out w5 hW);rintro e w6 ⟨⟨v,rfl,hOl⟩,hb⟩;obtain ⟨al,cl,rfl,-,uP⟩:=hOl.read;rw [Hn.out];have hW:=hW.mono hb;have hl:=hl.mono hb;have uQ:=uQ.mono hb;have hE:=hE.mono hb;have r4:=r4.below hb;have hbw:=bu hbw hb;clear hb;clear hOl HPr;go_wp2_with fail;go_loopw [46] (λ s wr => ∃ k:Nat,k<=n/\s=.int .i64 k/\Hid (BH w6 wr)) (λ s _ => n - (intOf s).toNat)
  case atStart => exact ⟨0,Nat.zero_le _,rfl,hii br⟩
  case round =>
   obtain ⟨k,hk,rfl,Hbk⟩:=hrel
   by_cases hlk:k < n
   ·obtain ⟨⟨r,s⟩,hx⟩:∃ x,l[k]?=some x:=⟨l[k]'(by rw [Hn.out]; exact hlk),gE _⟩;have hin:=List.mem_of_getElem? hx;have hr16:=(HP16.out _ hin).1;have hs16:=(HP16.out _ hin).2;have HSt:=hii (hP.out.step _ hin);have HGe:=hii (hP.out.ge _ hin);obtain ⟨b1,off1,c,ea,hck,hcs,hcq⟩:=(uP.mono zbl Hbk.out) k _ hx;have hc0:=hcs 0 (.int .u16 (r:Nat)) (by rw [hcq]; rfl);have hc1:=hcs 1 (.int .u16 (s:Nat)) (by rw [hcq]; rfl);rw [Nat.add_zero] at hc0;rw [<- Nat.add_assoc] at hc1;have hkn:(k:Int) < (n:Int):=by omega
    have hWk:=hW.mono Hbk.out;have hEk:=hE.mono Hbk.out;have uQk:=uQ.mono Hbk.out;have r4k:=r4.below Hbk.out;have hlk9:=hl.mono Hbk.out;subst ea;clear hx hin hcs hcq hck;have hbr:=Below.refl wr.heap.size wr;go_upto_region 9 with fail;have hb:=bA wr (.cells #[.int .u16 (r:Nat),.int .u16 (s:Nat)] 115);have r10:Row (wr.alloc (.cells #[.int .u16 (r:Nat),.int .u16 (s:Nat)] 115)) wr.heap.size 115 [.int .u16 (r:Nat),.int .u16 (s:Nat)]:=heap_alloc_new _ _;obtain ⟨g10,hg⟩:∃ g,g=wr.heap.size:=⟨_,rfl⟩;rw [<- hg] at r10 |-;clear hg hc0 hc1;generalize wr.alloc (.cells #[.int .u16 (r:Nat),.int .u16 (s:Nat)] 115)=wi at *;have hWk:=hWk.mono hb;have hEk:=hEk.mono hb;have uQk:=uQk.mono hb;have r4k:=r4k.below hb;have hlk9:=hlk9.mono hb;have hbr:=bu hbr hb;clear hb;go_wp2_with fail;go_fit (zdt wi hEk);rintro e wj ⟨⟨g11,rfl,hg11,hS9⟩,hbj⟩;have hS9:zcr wj g11 0 (pS f Qs (r,s) 0):=hS9;go_wp2_with fail;go_loopw [53] (λ s9 wr => ∃ j:Nat,j<=m/\s9=.int .i64 j/\zcr wr g11 0 (pS f Qs (r,s) j)/\Hid (BH wi wr)) (λ s9 _ => m - (intOf s9).toNat)
    case atStart => exact ⟨0,Nat.zero_le _,rfl,hS9,hii hbj⟩
    case round =>
     clear hS9 hbj;obtain ⟨j,hj,rfl,hS9,Hbj⟩:=hrel
     by_cases hlj:j < m
     ·obtain ⟨x,hx⟩:∃ x,Qs[j]?=some x:=⟨Qs[j]'(by rw [HQl.out]; exact hlj),gE _⟩;have hgx:Qs.getD j 0=x:=by rw [List.getD_eq_getElem?_getD,hx]; rfl
      obtain ⟨HMu,HAd⟩:=HSt.out j hlj;have HTS:Hid (pS f Qs (r,s) (j + 1)=pS f Qs (r,s) j + x * wt f (r,s) j):=hii (by rw [zlq,hgx]);rw [hgx] at HMu HAd;have HMu:=hii HMu;have HAd:=hii HAd;obtain ⟨bQ,offQ,J3,ao3,n3,Y3,K3,ap3,m3,Z3,eQ,z4,hvx⟩:=(uQk.mono Hbj.out) j (some x) (by rw [List.getElem?_map,hx]; rfl);have hvx:zac wr (qA J3 ao3 n3 Y3 K3 ap3 m3 Z3) x:=hvx;have hjm:(j:Int) < (m:Int):=by omega
      have HG:=hii (zhd.of hEk hg11 Hbj.out);obtain ⟨t,ht⟩:∃ t,wt f (r,s) j=t:=⟨_,rfl⟩;have Ht:=hii ht;rw [ht] at HMu HAd HTS;obtain ⟨acc,hacc⟩:∃ t,pS f Qs (r,s) j=t:=⟨_,rfl⟩;rw [hacc] at HAd HTS hS9;subst eQ;clear hx hgx ht hacc;obtain ⟨f0,f1,f2,f3,_,_,_,_⟩:=z4;go_upto_region 13 with fail;clear f0 f1 f2 f3;have hb:=bA wr (.cells #[.bool J3,.slice ao3 n3 Y3,.bool K3,.slice ap3 m3 Z3] 32);have r13:Row (wr.alloc (.cells #[.bool J3,.slice ao3 n3 Y3,.bool K3,.slice ap3 m3 Z3] 32)) wr.heap.size 32 [.bool J3,.slice ao3 n3 Y3,.bool K3,.slice ap3 m3 Z3]:=heap_alloc_new _ _;have hg13:wr.heap.size ≠ g11:=by have:=hS9.lt; omega
      have hg1011:¬ g10=g11:=by have:=r10.lt; omega
      obtain ⟨g13,hgg⟩:∃ g,g=wr.heap.size:=⟨_,rfl⟩;rw [<- hgg] at r13 hg13 |-;clear hgg;generalize wr.alloc (.cells #[.bool J3,.slice ao3 n3 Y3,.bool K3,.slice ap3 m3 Z3] 32)=wc at *;have hv:=hvx.mono hb;have SS0:=hii (hS9.mono hb);have HG:=hii (HG.out.mono hb);have Hbj:=hii (Below.step Hbj.out hb nl);have hWc:=hWk.mono Hbj.out;have r10c:=r10.below Hbj.out;clear hb hvx hS9;refine zaY (G:=(λ b => b=g11)) (wx:=wc) [vf (.pointer (some ⟨g11,0,none⟩)),vf (.agg #[.bool J3,.slice ao3 n3 Y3,.bool K3,.slice ap3 m3 Z3]),vf (.pointer (some ⟨g,0,none⟩)),vf (.pointer (some ⟨g10,0,none⟩)),vf (.int .u16 (r:Nat)),vf (.pointer (some ⟨g10,1,none⟩)),vf (.int .u16 (s:Nat)),vf (.int .i64 j),(RU (λ b => b=g11) t),(λ _ _ => True)] [some 58,some 59,some 60,some 61,some 62,some 63,some 64,some 65,some 66,some 67] [58,59,60,61,62,63,64,65,66,67] [9] [[0],[0],[0,1],[0,1],[0,1],[0,1],[0,1],[0,1],[0],[0]] [none,none,none,none,none,none,none,none,none,none] (λ p T W => match p with | 0 => BH wc W | _ + 1 => zcr W g11 0 (acc + x * t)) (by kernel_rfl) (by kernel_rfl) (by kernel_rfl) (by kernel_rfl) (of_decide_eq_true (by kernel_rfl)) (of_decide_eq_true (by kernel_rfl)) (by kernel_rfl) (by kernel_rfl) (λ T => br.drew) (λ p T W W' h hb => match p,h with | 0,h => bu h hb | _ + 1,h => h.mono hb) (λ p T T' W hT h => match p,hT,h with | 0,_,h => h | _ + 1,_,h => h) (zaf.refl _) ⟨zaa _ _,zaa _ _,zaa _ _,zaa _ _,zaa _ _,zaa _ _,zaa _ _,zaa _ _,RU.stay,(λ _ _ _ h _ => h),trivial⟩ ⟨?s0,?s1,?s2,?s3,?s4,?s5,?s6,?s7,?s8,?s9,trivial⟩ ?he
      case' s0 | s1 | s2 | s3 | s4 | s5 | s6 | s7 | s8 | s9 =>
       rintro T W p hb hp hS hA K hK
      case' s0 | s2 | s3 | s5 | s7 =>
       clear hS;simp only [sA] at hK |-
      case' s1 =>
       clear hS;obtain ⟨k0,k1,k2,k3⟩:=(r13.mono hb hg13).n4;simp only [sA] at hK |-
      case' s4 =>
       clear hS;have e3:T 61=_:=hA.1 rfl;have d0:=(r10c.mono hb hg1011).cell (k:=0) (by simp);have d1:=(r10c.mono hb hg1011).cell (k:=1) (by simp);simp only [List.getElem_cons_zero,List.getElem_cons_succ] at d0 d1;simp only [sA,e3] at hK |-
      case' s6 =>
       clear hS;have e5:T 63=_:=hA.1 rfl;have d0:=(r10c.mono hb hg1011).cell (k:=0) (by simp);have d1:=(r10c.mono hb hg1011).cell (k:=1) (by simp);simp only [List.getElem_cons_zero,List.getElem_cons_succ] at d0 d1;simp only [sA,e5] at hK |-
      case s0 | s1 | s2 | s3 | s4 | s5 | s6 | s7 =>
       have HK:=hii hK;clear hK hA;refine wO rfl (by rfl) ?_;go_simp;exact HK.out _ _ ⟨λ _ => br,λ h => absurd h (zap (by decide) (by decide))⟩ (rfl)
      case s8 =>
       obtain rfl:p=0:=by simpa using hp
       have hS:BH wc W:=hS;have e2:T 60=_:=hA.1 rfl;have e4:T 62=_:=hA.2.1 rfl;have e6:T 64=_:=hA.2.2.1 rfl;have e7:T 65=_:=hA.2.2.2.1 rfl;simp only [sA,e2,e4,e6,e7] at hK |-;have HK:=hii hK;clear hK hA;refine wO rfl (by rfl) ?_;go_simp;go_fit (zdh g R S f cap r s j W hr16 hs16 (by omega) (hWc.mono hS) (HG.out.mono hS).env);rintro e w1 ⟨hz,hb1⟩;rw [Ht.out] at hz;obtain ⟨J7,ao7,n7,Y7,K7,ap7,m7,Z7,rfl,hV7⟩:=hz.rat;have hn1:NoU (λ b => b=g11) w1:=(SS0.out.mono (bu hS hb1)).noU
       try dsimp only
       exact HK.out _ _ ⟨λ _ => hb1,λ h => absurd h (zap (by decide) (by decide))⟩ (hV7.ru hn1)
      case s9 =>
       obtain rfl:p=0:=by simpa using hp
       have hS:BH wc W:=hS;have e0:T 58=_:=hA.1 rfl;have e1:T 59=_:=hA.2.1 rfl;have r8:(_:World->Value->Prop) W (T 66):=hA.2.2.1 rfl;have r8:RU (λ b => b=g11) t W _:=r8;obtain ⟨J8,ao8,n8,Y8,K8,ap8,m8,Z8,e8⟩:=r8.rat.parts;rw [e8] at r8;simp only [sA,e0,e1,e8] at hK |-;have HK:=hii hK;clear hK hA;refine wO rfl (by rfl) ?_;go_simp;go_fit (zgq g11 acc x t _ _ W (SS0.out.mono hS) (hv.mono hS) r8.rat HMu HAd (HG.out.mono hS));rintro e w1 ⟨rfl,hs1,hk1⟩
       try dsimp only
       exact HK.out _ _ ⟨λ h => absurd rfl h,λ _ => ⟨hs1,hk1⟩⟩ (trivial)
      case he =>
       rintro T W hb hS hA;have hS:zcr W g11 0 (acc + x * t):=hS;simp only [sA];clear hA;have Hbj2:=hii (Hbj.out.trans (hb.below (λ b e => by rw [e]; exact hg11) Hbj.out.size));rw [<- HTS.out] at hS;clear hb;go_wp2;go_roundw
       case rel => exact ⟨j + 1,by omega,by go_num,hS,Hbj2⟩
       case measure => simp [intOf]; omega
     ·have hjm:j=m:=by omega
      rw [hjm] at hS9;have hjn:¬ (j:Int) < (m:Int):=by omega
      obtain ⟨hge,hcr⟩:=HGe.out;obtain ⟨acc,hacc⟩:∃ t,pS f Qs (r,s) m=t:=⟨_,rfl⟩;rw [hacc] at hS9 hge hcr;have Hge:Hid (decide (0<=Rq.cmpQ acc ld)=true):=hii (decide_eq_true (zeK hge));have Hcr:=hii hcr;have hEr:=hEk.mono Hbj.out;have r4r:=r4k.below Hbj.out;have hlr:=hlk9.mono Hbj.out;obtain ⟨J3,ao3,n3,Y3,K3,ap3,m3,Z3,rS,hVS⟩:=hS9;have hVS:=hVS rfl;clear hacc hge hcr hlj hjm;go_upto_region 15 with fail;clear hjn;obtain ⟨wc,rfl⟩:=exi wr;refine zae (wx:=wc) [vf (.pointer (some ⟨g11,0,none⟩)),vf (.pointer (some ⟨g11,0,none⟩)),vf (.pointer (some ⟨g11,4,none⟩)),vf (.int .i64 0),vf (.bool false),vf (.bool false),vf (.pointer (some ⟨g11,0,none⟩)),vf (.pointer (some ⟨g11,0,none⟩)),vf (.pointer (some ⟨g11,0,none⟩)),vf (.agg #[.bool J3,.slice ao3 n3 Y3,.bool K3,.slice ap3 m3 Z3]),vf (.agg #[.bool J1,.slice ao1 n1 Y1,.bool K1,.slice ap1 m1 Z1]),vf (.bool true),vf (.bool false),vf (.bool false)] [69,70,71,72,73,74,75,76,77,78,79,80,81,82] (by kernel_rfl) (by kernel_rfl) (by kernel_rfl) (of_decide_eq_true (by kernel_rfl)) br ⟨sV _,sV _,sV _,sV _,sV _,sV _,sV _,sV _,sV _,sV _,sV _,sV _,sV _,sV _,trivial⟩ ⟨?s0,?s1,?s2,?s3,?s4,?s5,?s6,?s7,?s8,?s9,?s10,?s11,?s12,?s13,trivial⟩ ?he
      case' s0 | s1 | s2 | s3 | s4 | s5 | s6 | s7 | s8 | s9 | s10 | s11 | s12 | s13 =>
       rintro T W hb hA K hK
      case' s0 =>
       simp only [sA] at hK |-
      case' s1 =>
       have e0:T 69=_:=hA.1;simp only [sA,e0] at hK |-
      case' s2 =>
       have e1:T 70=_:=hA.1;simp only [sA,e1] at hK |-
      case' s4 =>
       have e3:T 72=_:=hA.1;simp only [sA,e3] at hK |-
      case' s5 =>
       have e4:T 73=_:=hA.1;simp only [sA,e4] at hK |-
      case' s6 =>
       have e5:T 74=_:=hA.1;simp only [sA,e5] at hK |-
      case' s7 =>
       have e6:T 75=_:=hA.1;have e5:T 74=_:=hA.2.1;simp only [sA,e6,e5] at hK |-
      case' s8 =>
       have e7:T 76=_:=hA.1;have e5:T 74=_:=hA.2.1;simp only [sA,e7,e5] at hK |-
      case' s12 =>
       have e11:T 80=_:=hA.1;have e5:T 74=_:=hA.2.1;simp only [sA,e11,e5] at hK |-
      case' s13 =>
       have e5:T 74=_:=hA.1;have e12:T 81=_:=hA.2.1;simp only [sA,e5,e12] at hK |-
      case' s3 =>
       have e2:T 71=_:=hA.1;simp only [sA,e2] at hK |-;have HK:=hii hK;clear hK hA;have h9:=rS.below hb;obtain ⟨k0,k1,k2,k3,k4⟩:=h9.n5
      case' s9 =>
       have e8:T 77=_:=hA.1;have e5:T 74=_:=hA.2.1;simp only [sA,e8,e5] at hK |-;have HK:=hii hK;clear hK hA;have h9:=rS.below hb;obtain ⟨k0,k1,k2,k3,k4⟩:=h9.n5
      case' s10 =>
       have e5:T 74=_:=hA.1;simp only [sA,e5] at hK |-;have HK:=hii hK;clear hK hA;obtain ⟨e0,e1,e2,e3⟩:=(r4r.below hb).n4
      case s0 | s1 | s2 | s4 | s5 | s6 | s7 | s8 | s12 | s13 =>
       have HK:=hii hK;clear hK hA;refine wO rfl (by rfl) ?_;go_simp;exact HK.out _ _ br (rfl)
      case s3 | s9 | s10 =>
       refine wO rfl (by rfl) ?_;go_simp;exact HK.out _ _ br (rfl)
      case s11 =>
       have e9:T 78=_:=hA.1;have e10:T 79=_:=hA.2.1;have e5:T 74=_:=hA.2.2.1;simp only [sA,e9,e10,e5] at hK |-;have HK:=hii hK;clear hK hA;refine wO rfl (by rfl) ?_;go_simp;go_fit (zeC _ _ acc ld W (hVS.mono hb) (hlr.mono hb) Hcr (hEr.mono hb));rw [Hge.out];rintro e w1 ⟨rfl,hb1⟩
       try dsimp only
       exact HK.out _ _ hb1 (rfl)
      case he =>
       rintro T W hb hA;have f13:T 82=.bool false:=hA.at 13 (by decide);simp only [sA,f13];have Hbk2:=hii (Hbk.out.trans ((Below.step (hbr.trans (Hbj.out.mono hbr.size)) hb (Nat.le_trans nl nl)).mono Hbk.out.size));clear hA f13 hb;go_wp2;go_roundw
       case rel => exact ⟨k + 1,by omega,by go_num,Hbk2⟩
       case measure => simp [intOf]; omega
   ·obtain rfl:k=n:=by omega
    go_wp2;go_ret;exact ⟨rfl,Below.step hbw Hbk.out nl⟩
end Go.Proofs.YtfgffkmddanjjaaGreatDoor
