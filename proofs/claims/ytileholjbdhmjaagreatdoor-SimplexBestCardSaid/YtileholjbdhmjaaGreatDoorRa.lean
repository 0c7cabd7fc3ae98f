/-
  The reference of chapter 13: sums of products, comparisons, a column.
-/
import Derived.Test.YtileholjbdhmjaaGreatDoorSxD
import Derived.Test.YtileholjbdhmjaaGreatDoorFlowX
set_option linter.unusedVariables false
set_option linter.unusedSimpArgs false
set_option maxRecDepth 100000
set_option maxHeartbeats 25600000
namespace Go.Proofs.YtileholjbdhmjaaGreatDoor
open Go.RowKit
theorem rdot13 (la lb:List Rat) (s:Rat) (aa ab:Option Addr) (ca cb:Nat) (w:World) (hm:la.length<=1000000000) (hl:la.length=lb.length) (ua:UQ w aa (la.map some)) (ub:UQ w ab (lb.map some)) (hD:Hid (DotS 0 la lb (some s))) (hE:Env w) :
  Calls Tryz.prog 46 #[.slice aa la.length ca,.slice ab lb.length cb] w λ e w' => GotR w' s e/\Below w.heap.size w w':=by
 have HL:=hii hl;clear hl;have hbw:=Below.refl w.heap.size w;go_enter Tryz.func46,Tryz.ntmps46;go_upto_region 1 with fail;have X4:=Box4.new w (.bool false) (.slice none 0 0) (.bool false) (.slice none 0 0) 38;have hb:=bA w (.cells #[.bool false,.slice none 0 0,.bool false,.slice none 0 0] 38);generalize w.alloc (.cells #[.bool false,.slice none 0 0,.bool false,.slice none 0 0] 38)=v1 at *;have ua:=ua.mono hb;have ub:=ub.mono hb;have hE:=hE.mono hb;have hbw:=bu hbw hb;clear hb;go_wp2_with fail;(with_reducible refine (rDot_any la lb (some s) aa ab ca cb v1 hm HL.out ua ub hD hE).mono ?_);rintro e v2 ⟨hz,hb⟩;obtain ⟨n1,a1,l1,c1,n2,a2,l2,c2,rfl,h1,h2⟩:=hz;have X4:=X4.mono hb;have hbw:=bu hbw hb;clear hb ua ub;go_upto_region 2 with fail;have l4:=X4.lt;have X5:=Box4.new v2 (.bool n1) (.slice a1 l1 c1) (.bool n2) (.slice a2 l2 c2) 38;have hb:=bA v2 (.cells #[.bool n1,.slice a1 l1 c1,.bool n2,.slice a2 l2 c2] 38);generalize v2.alloc (.cells #[.bool n1,.slice a1 l1 c1,.bool n2,.slice a2 l2 c2] 38)=v3 at *;have X4:=X4.mono hb;have h1:=hii (h1.out.mono hb);have h2:=hii (h2.out.mono hb);have hbw:=bu hbw hb;clear hb;obtain ⟨c50,c51,c52,c53,_,_,_,_⟩:=id X5;obtain ⟨c40,c41,c42,c43,_,_,_,_⟩:=id X4;go_wp2;refine bodyPost_ret (v:=.agg #[.bool n1,.slice a1 l1 c1,.bool n2,.slice a2 l2 c2]) (by simp [results,Tryz.results46,go_sem,c40,c41,c42,c43]) rfl ⟨⟨n1,a1,l1,c1,n2,a2,l2,c2,rfl,hii (h1.out.put4B X4 _ _ _ _),hii (h2.out.put4B X4 _ _ _ _)⟩,Below.put4 hbw (by omega) _ _ _ _⟩
theorem rcmp13 (va vb:Value) (a b:Rat) (c:Int) (w:World) (ha:RatV w va a) (hb:RatV w vb b) (hs:Hid (CrS a b)) (hc:Hid (Rq.cmpQ a b=c)) (hE:Env w) :
  Calls Tryz.prog 49 #[va,vb] w λ e w' => e=.returned (.int .i64 c)/\Below w.heap.size w w':=by
 obtain ⟨n1,a1,l1,c1,n2,a2,l2,c2,rfl⟩:=ha.parts;obtain ⟨n3,a3,l3,c3,n4,a4,l4,c4,rfl⟩:=hb.parts;have HVA:=hii ha;have HVB:=hii hb;clear ha hb;go_enter Tryz.func49,Tryz.ntmps49;go_upto_region 1 with fail;obtain ⟨wx,hwx,r1,r2,hb⟩:=two_rows w 38 38 [.bool n1,.slice a1 l1 c1,.bool n2,.slice a2 l2 c2] [.bool n3,.slice a3 l3 c3,.bool n4,.slice a4 l4 c4];simp only [List.toArray] at hwx;rw [<- hwx];clear hwx;obtain ⟨g2,hg2⟩:=exi (w.heap.size + 1);rw [<- hg2] at r2 |-;clear hg2;obtain ⟨g1,hg1⟩:=exi (w.heap.size);rw [<- hg1] at r1 |-;clear hg1;obtain ⟨w1,rfl⟩:=exi wx;have HC:=hii (rCmp_q _ _ a b w1 (HVA.out.mono hb) (HVB.out.mono hb) hs (hE.mono hb));rw [hc.out] at HC;have hbw:=hb;clear hb;obtain ⟨x0,x1,x2,x3⟩:=r1.n4;obtain ⟨y0,y1,y2,y3⟩:=r2.n4;go_wp2_with fail;(with_reducible refine (HC.out).mono ?_);rintro e w2 ⟨rfl,hb⟩;have hbw:=bu hbw hb;clear hb HC x0 x1 x2 x3 y0 y1 y2 y3;go_wp2;go_ret;exact ⟨rfl,hbw⟩
theorem rtrans13 (A:List (List Rat)) (j:Nat) (aA aB aC:Option Addr) (cA nB cB nC cC:Nat) (w:World) (hm:A.length<=1000000) (uA:UM w aA (A.map (·.map some))) (hj:∀ r∈A,j < r.length) :
  Calls Tryz.prog 84 #[.agg #[.slice aA A.length cA,.slice aB nB cB,.slice aC nC cC],.int .i64 j] w λ e w' => ColP w' (colR A j) e/\Below w.heap.size w w':=by
 have hj:=hii hj;go_enter Tryz.func84,Tryz.ntmps84;go_upto_region 1 with fail;have hb:=bA w (.cells #[.slice aA A.length cA,.slice aB nB cB,.slice aC nC cC] 30);have rA:Row (w.alloc (.cells #[.slice aA A.length cA,.slice aB nB cB,.slice aC nC cC] 30)) w.heap.size 30 [.slice aA A.length cA,.slice aB nB cB,.slice aC nC cC]:=heap_alloc_new _ _;obtain ⟨g,hg⟩:=exi (w.heap.size);rw [<- hg] at rA |-;clear hg;generalize w.alloc (.cells #[.slice aA A.length cA,.slice aB nB cB,.slice aC nC cC] 30)=wl at *;have uA:=uA.mono hb;have hbw:=hb;clear hb;go_wp2_with fail;go_loopw [5,6] (λ s c wr => ∃ k:Nat,k<=A.length/\c=.int .i64 k/\OwnQ wr wl.heap.size s (colR (A.take k) j)/\Below wl.heap.size wl wr) (λ _ c _ => A.length - (intOf c).toNat)
 case atStart => exact ⟨0,Nat.zero_le _,rfl,OwnQ.nil _ _,br⟩
 case round =>
  obtain ⟨k,hk,rfl,hown,hbr⟩:=hrel;obtain ⟨x0,x1,x2⟩:=(rA.below hbr).n3
  by_cases hlt:k < A.length
  ·obtain ⟨row,hrow⟩:∃ x,A[k]?=some x:=⟨A[k],gE hlt⟩;have hjr:=hj.out row (List.mem_of_getElem? hrow);obtain ⟨q,hq⟩:∃ x,row[j]?=some x:=⟨row[j],gE hjr⟩;obtain ⟨b0,off0,ar,cr,ea,hc,uR⟩:=(uA.mono hbr) k (row.map some) (by simp [hrow]);obtain ⟨b1,off1,ng1,ao1,n1,cap1,ng2,ao2,n2,cap2,eb,FA,hv⟩:=uR j (some q) (by simp [hq]);have HC:=hii (colR_snoc hrow hq);have hl0:=colR_length (A.take k) j;have HL:Hid ((colR (A.take k) j).length<=1000000):=hii (by rw [hl0]; simp; omega);rw [List.length_map] at hc;subst ea;subst eb;clear hrow hq uA uR hl0;obtain ⟨n1',a1',l1',c1',n2',a2',l2',c2',ev,hv1,hv2⟩:=(hv:RatV wr _ q)
   cases ev
   have HV1:=hii hv1;have HV2:=hii hv2;clear hv1 hv2;obtain ⟨f0,f1,f2,f3,_,_,_,_⟩:=FA;have hsz:=hbr.size;go_wp2_with (at_builtin; refine app_q _ rfl _ _ rfl wl wl.heap.size _ (colR (A.take k) j) rfl hown hsz hbr HV1 HV2 rfl HL.out ?_; intro v2 w2 hown2 hbel2 hsz2);go_roundw
   case rel => exact ⟨k + 1,by omega,by go_num,by rw [HC.out]; exact hown2,hbel2⟩
   case measure => simp [intOf]; omega
  ·obtain rfl:k=A.length:=by omega
   rw [colR_take] at hown;obtain ⟨ao,cap,rfl,hU⟩:=hown.read;have hbw:=bu hbw hbr;go_wp2;go_ret;exact ⟨⟨ao,cap,rfl,hU⟩,hbw⟩
def fitsB (A:List (List Rat)) (b x:List Rat):Bool:=x.all (λ r => !negR r) && (List.range A.length).all λ i => decide (Du.dotR (A.getD i []) x<=b.getD i 0)
section
variable {A : List (List Rat)} {b x a : List Rat} {k : Nat} {r bi : Rat}
theorem fits_neg (hk:x[k]?=some r) (hr:negR r=true):fitsB A b x=false:=by
 unfold fitsB;rw [Bool.and_eq_false_iff];refine .inl (Bool.eq_false_iff.2 λ h => ?_);rw [List.all_eq_true] at h;have:=h r (List.mem_of_getElem? hk);rw [hr] at this
 cases this
theorem fits_row (ha:A[k]?=some a) (hb:b[k]?=some bi) (h:bi < Du.dotR a x):fitsB A b x=false:=by
 unfold fitsB;rw [Bool.and_eq_false_iff];refine .inr (Bool.eq_false_iff.2 λ h2 => ?_);rw [List.all_eq_true] at h2;have hk:k < A.length:=by
  rcases Nat.lt_or_ge k A.length with h | h
  ·exact h
  ·rw [List.getElem?_eq_none h] at ha; cases ha
 have h3:=of_decide_eq_true (h2 k (List.mem_range.2 hk));rw [List.getD_eq_getElem?_getD,ha,List.getD_eq_getElem?_getD,hb] at h3;exact Rat.not_lt.2 h3 h
theorem fits_ok (h1:∀ r∈x,negR r=false) (h2:∀ (k:Nat) (a:List Rat) (bi:Rat),A[k]?=some a->b[k]?=some bi->Du.dotR a x<=bi) (hl:A.length<=b.length):fitsB A b x=true:=by
 unfold fitsB;rw [Bool.and_eq_true,List.all_eq_true,List.all_eq_true];refine ⟨λ r hr => by rw [h1 r hr]; rfl,λ i hi => decide_eq_true ?_⟩;have hi:=List.mem_range.1 hi;have:=h2 i A[i] (b[i]'(by omega)) (gE hi) (gE (by omega));rw [List.getD_eq_getElem?_getD,gE hi,List.getD_eq_getElem?_getD,gE (show i < b.length by omega)];exact this
theorem dot_of {la lb:List Rat} {s:Rat} (h:DotS 0 la lb (some s)):s=Du.dotR la lb:=by
 have:=dotS_val la lb 0 s h;rw [this]; grind
theorem get_take {α:Type} {l:List α} {k:Nat} {p:α->Prop} {a:α} (hk:l[k]?=some a) (h:∀ x∈l.take k,p x) (ha:p a):∀ x∈l.take (k + 1),p x:=by
 intro x hx;rw [List.take_add_one,hk] at hx;rcases List.mem_append.1 hx with h1 | h1
 ·exact h x h1
 ·simp at h1; subst h1; exact ha
end
theorem rfits13 (A:List (List Rat)) (b C x:List Rat) (hl:Hid (A.length<=b.length/\A.length<=1000000/\x.length<=1000000)) (hr:Hid (∀ r∈A,r.length=x.length)) (hD:Hid (∀ (k:Nat) (a:List Rat) (bi:Rat),A[k]?=some a->b[k]?=some bi->∃ s,DotS 0 a x (some s)/\CrS s bi)) (aA aB aC ax:Option Addr) (cA cB cC cx:Nat) (w:World) (uA:UM w aA (A.map (·.map some))) (uB:UQ w aB (b.map some)) (uC:UQ w aC (C.map some)) (ux:UQ w ax (x.map some)) (hE:Env w) :
  Calls Tryz.prog 48 #[.agg #[.slice aA A.length cA,.slice aB b.length cB,.slice aC C.length cC],.slice ax x.length cx] w λ e w' => e=.returned (.bool (fitsB A b x))/\Below w.heap.size w w':=by
 obtain ⟨E,hE1⟩:∃ E,E=fitsB A b x:=⟨_,rfl⟩;rw [<- hE1];have HE:=hii hE1;have hx6:=hl.out.2.2;have hA6:=hl.out.2.1;clear hE1;go_enter Tryz.func48,Tryz.ntmps48;go_upto_region 1 with fail;have hb:=bA w (.cells #[.slice aA A.length cA,.slice aB b.length cB,.slice aC C.length cC] 30);have rA:Row (w.alloc (.cells #[.slice aA A.length cA,.slice aB b.length cB,.slice aC C.length cC] 30)) w.heap.size 30 [.slice aA A.length cA,.slice aB b.length cB,.slice aC C.length cC]:=heap_alloc_new _ _;obtain ⟨g,hg⟩:=exi (w.heap.size);rw [<- hg] at rA |-;clear hg;generalize w.alloc (.cells #[.slice aA A.length cA,.slice aB b.length cB,.slice aC C.length cC] 30)=w1 at *;have hbw:=hb;clear hb;go_wp2_with fail;go_loopw [5] (λ s wr => ∃ k:Nat,k<=x.length/\s=.int .i64 (k:Nat)/\Hid (∀ r∈x.take k,negR r=false)/\Below w.heap.size w wr/\Row wr g 30 [.slice aA A.length cA,.slice aB b.length cB,.slice aC C.length cC]) (λ s _ => x.length - (intOf s).toNat)
 case atStart => exact ⟨0,Nat.zero_le _,rfl,hii (by simp),hbw,rA⟩
 case round =>
  clear hbw rA;obtain ⟨k,hk,rfl,HN,hbw,rA⟩:=hrel
  by_cases hlt:k < x.length
  ·obtain ⟨r,hr0⟩:∃ r,x[k]?=some r:=⟨x[k],gE hlt⟩;obtain ⟨b1,off1,ng1,ao1,n1,cap1,nh1,ap1,m1,caq1,e1,FA,hv⟩:=(ux.mono hbw) k (some r) (by rw [List.getElem?_map,hr0]; rfl);obtain ⟨_,_,_,_,_,_,_,_,e2,hv1,hv2⟩:=(hv:RatV wr _ r)
   cases e2
   have Hr0:=hii hr0;clear hr0 hv2;subst e1;obtain ⟨s,hs⟩:∃ s,sgnI r.num=s:=⟨_,rfl⟩;have Hs:=hii hs;clear hs;obtain ⟨f0,f1,f2,f3,_,_,_,_⟩:=FA;go_wp2_with fail;(with_reducible refine (rSign_eq _ r.num s wr Hs hv1).mono ?_);rintro e w2 ⟨rfl,hb⟩;have hbw:=bu hbw hb;have rA:=rA.below hb;clear hb f0 f1 f2 f3 hv1
   by_cases hz:s < 0
   ·have HEF:Hid (E=false):=hii (by rw [HE.out]; exact fits_neg Hr0.out (by unfold negR; rw [<- sgnI_neg,Hs.out]; exact decide_eq_true hz));go_wp2;go_ret;exact ⟨(congrArg (λ b => Ending.returned (.bool b)) HEF.out).symm,hbw⟩
   ·have HN2:=hii (get_take (p:=λ r => negR r=false) Hr0.out HN.out (by unfold negR; rw [<- sgnI_neg,Hs.out]; exact decide_eq_false hz));clear HN;go_wp2;go_roundw
    case rel => exact ⟨k + 1,by omega,by go_num,HN2,hbw,rA⟩
    case measure => simp [intOf]; omega
  ·have hke:k=x.length:=by omega
   have HNx:Hid (∀ r∈x,negR r=false):=hii λ r hr => HN.out r (by rw [hke,List.take_length]; exact hr)
   clear hke hk HN;obtain ⟨x0,x1,x2⟩:=rA.n3;go_wp2_with fail;clear x0 x1 x2;obtain ⟨wp,rfl⟩:=exi wr;have hbw0:=hbw;have rA0:=rA;clear hbw rA;go_loopw [6] (λ s wr => ∃ i:Nat,i<=A.length/\s=.int .i64 (i:Nat)/\Hid (∀ (k:Nat) (a:List Rat) (bi:Rat),k < i->A[k]?=some a->b[k]?=some bi->Du.dotR a x<=bi)/\Below w.heap.size w wr/\Row wr g 30 [.slice aA A.length cA,.slice aB b.length cB,.slice aC C.length cC]) (λ s _ => A.length - (intOf s).toNat)
   case atStart => exact ⟨0,Nat.zero_le _,rfl,hii (λ k a bi h => by omega),hbw0,rA0⟩
   case round =>
    clear hbw0 rA0;obtain ⟨i,hi,rfl,HI,hbw,rA⟩:=hrel
    by_cases hli:i < A.length
    ·have hlb:i < b.length:=by have:=hl.out.1; omega
     obtain ⟨a,ha⟩:∃ a,A[i]?=some a:=⟨A[i],gE hli⟩;obtain ⟨bi,hbi⟩:∃ a,b[i]?=some a:=⟨b[i],gE hlb⟩;obtain ⟨s,hDs,hCs⟩:=hD.out i a bi ha hbi;have Hal:Hid (a.length=x.length):=hii (hr.out a (List.mem_of_getElem? ha));obtain ⟨b0,off0,ar,cr,ea,hc,ur⟩:=(uA.mono hbw) i (a.map some) (by rw [List.getElem?_map,ha]; rfl);rw [List.length_map] at hc;obtain ⟨b1,off1,ng1,ao1,n1,cap1,nh1,ap1,m1,caq1,eb,FB,hv⟩:=(uB.mono hbw) i (some bi) (by rw [List.getElem?_map,hbi]; rfl);have hv:RatV wr _ bi:=hv;obtain ⟨c,hc0⟩:∃ c,Rq.cmpQ s bi=c:=⟨_,rfl⟩;have HDs:=hii hDs;have HCs:=hii hCs;have Hc:=hii hc0;have Hai:=hii ha;have Hbi:=hii hbi;have HSd:Hid (s=Du.dotR a x):=hii (dot_of hDs);have hEr:=hE.mono hbw;have uxr:=ux.mono hbw;have ha6:a.length<=1000000000:=by rw [Hal.out]; omega
     clear hDs hCs hc0 ha hbi;subst ea;subst eb;obtain ⟨x0,x1,x2⟩:=rA.n3;go_upto_region 9 with fail;clear x0 x1 x2;refine wp_region_vals (wx:=wr) [(λ _ v => v=.pointer (some ⟨g,0,none⟩)),(λ _ v => v=.slice (some ⟨b0,off0,none⟩) A.length cA),(λ _ v => v=.int .i64 (i:Nat)),(λ _ v => v=.pointer (some ⟨b0,off0 + i,none⟩)),(λ _ v => v=.slice ar a.length cr),(λ _ v => v=.slice ax x.length cx),(λ W v => RatV W v s),(λ _ v => v=.pointer (some ⟨g,1,none⟩)),(λ _ v => v=.slice (some ⟨b1,off1,none⟩) b.length cB),(λ _ v => v=.int .i64 (i:Nat)),(λ _ v => v=.pointer (some ⟨b1,off1 + i * 4,none⟩)),(λ _ v => v=.agg #[.bool ng1,.slice ao1 n1 cap1,.bool nh1,.slice ap1 m1 caq1]),(λ _ v => v=.int .i64 c),(λ _ v => v=.bool (decide (0 < c)))] [27,28,29,30,31,32,33,34,35,36,37,38,39,40] (by kernel_rfl) (by kernel_rfl) (by kernel_rfl) (of_decide_eq_true (by kernel_rfl)) br ⟨sV _,sV _,sV _,sV _,sV _,sV _,λ _ _ _ h hb => h.mono hb,sV _,sV _,sV _,sV _,sV _,sV _,sV _,trivial⟩ ⟨?s0,?s1,?s2,?s3,?s4,?s5,?s6,?s7,?s8,?s9,?s10,?s11,?s12,?s13,trivial⟩ ?he
     case' s0 | s1 | s2 | s3 | s4 | s5 | s6 | s7 | s8 | s9 | s10 | s11 | s12 | s13 =>
      rintro T W hb hA K hK
     case' s0 | s2 | s5 | s7 | s9 =>
      simp only [ovr,Act.put,sT,sZ,sS] at hK |-
     case' s3 =>
      have e1:T 28=.slice (some ⟨b0,off0,none⟩) A.length cA:=hA.1;have e2:T 29=.int .i64 (i:Nat):=hA.2.1;simp only [ovr,Act.put,sT,sZ,sS,e1,e2] at hK |-
     case' s10 =>
      have e8:T 35=.slice (some ⟨b1,off1,none⟩) b.length cB:=hA.1;have e9:T 36=.int .i64 (i:Nat):=hA.2.1;simp only [ovr,Act.put,sT,sZ,sS,e8,e9] at hK |-
     case' s13 =>
      have e12:T 39=.int .i64 c:=hA.1;simp only [ovr,Act.put,sT,sZ,sS,e12] at hK |-
     case' s1 =>
      have e0:T 27=.pointer (some ⟨g,0,none⟩):=hA.1;simp only [ovr,Act.put,sT,sZ,sS,e0] at hK |-;have HK:=hii hK;clear hK hA;obtain ⟨x0,x1,x2⟩:=(rA.below hb).n3
     case' s4 =>
      have e3:T 30=.pointer (some ⟨b0,off0 + i,none⟩):=hA.1;simp only [ovr,Act.put,sT,sZ,sS,e3] at hK |-;have HK:=hii hK;clear hK hA;have y9:=(hb.cell (p:=⟨b0,off0 + i,none⟩) (cell_lt hc)).trans hc
     case' s8 =>
      have e7:T 34=.pointer (some ⟨g,1,none⟩):=hA.1;simp only [ovr,Act.put,sT,sZ,sS,e7] at hK |-;have HK:=hii hK;clear hK hA;obtain ⟨x0,x1,x2⟩:=(rA.below hb).n3
     case' s11 =>
      have e10:T 37=.pointer (some ⟨b1,off1 + i * 4,none⟩):=hA.1;simp only [ovr,Act.put,sT,sZ,sS,e10] at hK |-;have HK:=hii hK;clear hK hA;obtain ⟨f0,f1,f2,f3,_,_,_,_⟩:=FB.mono hb
     case s0 | s2 | s3 | s5 | s7 | s9 | s10 | s13 =>
      have HK:=hii hK;clear hK hA;refine wO rfl (by rfl) ?_;go_simp;exact HK.out _ _ br (rfl)
     case s1 | s4 | s8 | s11 =>
      refine wO rfl (by rfl) ?_;go_simp;exact HK.out _ _ br (rfl)
     case s6 =>
      have e4:T 31=.slice ar a.length cr:=hA.1;have e5:T 32=.slice ax x.length cx:=hA.2.1;simp only [ovr,Act.put,sT,sZ,sS,e4,e5] at hK |-;have HK:=hii hK;clear hK hA;refine wO rfl (by rfl) ?_;go_simp;(with_reducible refine (rdot13 a x s ar ax cr cx W ha6 Hal.out (ur.mono hb) (uxr.mono hb) HDs (hEr.mono hb)).mono ?_);rintro e w1 ⟨hz,hb1⟩;obtain ⟨ng5,ao5,n5,cap5,nh5,ap5,m5,caq5,rfl,hV⟩:=hz.rat
      try dsimp only
      exact HK.out _ _ hb1 (hV)
     case s12 =>
      have r6:((λ W v => RatV W v s):World->Value->Prop) W (T 33):=hA.1;have e11:T 38=.agg #[.bool ng1,.slice ao1 n1 cap1,.bool nh1,.slice ap1 m1 caq1]:=hA.2.1;simp only [ovr,Act.put,sT,sZ,sS,e11] at hK |-;have HK:=hii hK;clear hK hA;have r6:RatV W _ s:=r6;obtain ⟨ng6,ao6,n6,cap6,nh6,ap6,m6,caq6,e6⟩:=r6.parts;rw [e6] at r6;simp only [e6] at HK |-;refine wO rfl (by rfl) ?_;go_simp;(with_reducible refine (rcmp13 _ _ s bi c W r6 (hv.mono hb) HCs Hc (hEr.mono hb)).mono ?_);rintro e w1 ⟨rfl,hb1⟩
      try dsimp only
      exact HK.out _ _ hb1 (rfl)
     case he =>
      rintro T W hb hA;have f13:T 40=.bool (decide (0 < c)):=hA.at 13 (by decide);have hbw:=bu hbw hb;have rA:=rA.below hb;simp only [ovr,sT,sZ,sS,f13];clear hA f13 hb hc ur FB hv hEr uxr;obtain ⟨w3,rfl⟩:=exi W
      by_cases hp:0 < c
      ·have hpd:decide (0 < c)=true:=decide_eq_true hp;have HEF:Hid (E=false):=hii (by rw [HE.out]; exact fits_row Hai.out Hbi.out (by rw [<- HSd.out]; exact cmpQ_gt.1 (by rw [Hc.out]; exact hp)));go_wp2;go_ret;exact ⟨(congrArg (λ b => Ending.returned (.bool b)) HEF.out).symm,hbw⟩
      ·have hpd:decide (0 < c)=false:=decide_eq_false hp;have HI2:Hid (∀ (k:Nat) (a:List Rat) (bi:Rat),k < i + 1->A[k]?=some a->b[k]?=some bi->Du.dotR a x<=bi):=hii λ k a' bi' hk ha' hb' => by
        by_cases e:k=i
        ·rw [e,Hai.out] at ha';rw [e,Hbi.out] at hb'
         cases ha'
         cases hb'
         rw [<- HSd.out];exact Rat.not_lt.1 λ h => hp (by rw [<- Hc.out]; exact cmpQ_gt.2 h)
        ·exact HI.out k a' bi' (by omega) ha' hb'
       clear HI;go_wp2;go_roundw
       case rel => exact ⟨i + 1,by omega,by go_num,HI2,hbw,rA⟩
       case measure => simp [intOf]; omega
    ·have hie:i=A.length:=by omega
     have HET:Hid (E=true):=hii (by
      rw [HE.out];exact fits_ok HNx.out (λ k a bi ha hb => HI.out k a bi (by
       rcases Nat.lt_or_ge k A.length with h | h
       ·omega
       ·rw [List.getElem?_eq_none h] at ha; cases ha) ha hb) hl.out.1)
     clear hie hi HI;obtain ⟨x0,x1,x2⟩:=rA.n3;go_wp2;go_ret;exact ⟨(congrArg (λ b => Ending.returned (.bool b)) HET.out).symm,hbw⟩
end Go.Proofs.YtileholjbdhmjaaGreatDoor
