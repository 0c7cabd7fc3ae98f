/-
  The reference of chapter 13: prices and rays.
-/
import Derived.Test.YtileholjbdhmjaaGreatDoorRa
set_option linter.unusedVariables false
set_option linter.unusedSimpArgs false
set_option maxRecDepth 100000
set_option maxHeartbeats 25600000
namespace Go.Proofs.YtileholjbdhmjaaGreatDoor
open Go.RowKit
def ColV (w:World) (l:List Rat) (v:Value):Prop:=∃ ao cap,v=.slice ao l.length cap/\UQ w ao (l.map some)
theorem ColV.mono {w w':World} {l:List Rat} {v:Value} (h:ColV w l v) (hb:Below w.heap.size w w'):ColV w' l v:=by
 obtain ⟨ao,cap,e,hU⟩:=h;exact ⟨ao,cap,e,hU.mono hb⟩
theorem field0 (x1 x2:Bool) (a1 a2:Option Addr) (l1 c1 l2 c2:Nat) (w:World):Sem.run Tryz.prog (Instr.field 38 (.agg #[.bool x1,.slice a1 l1 c1,.bool x2,.slice a2 l2 c2]) 0) w=Result.ok (.agg #[.bool x1,.slice a1 l1 c1]) w:=by kernel_rfl
theorem rprices13 (A:List (List Rat)) (b C y:List Rat) (hl:Hid (A.length<=1000000/\y.length=b.length/\b.length<=1000000/\C.length<=1000000/\A.length=b.length)) (hr:Hid (∀ r∈A,r.length=C.length)) (h0:Hid (∀ r∈y,negR r=false)) (hD:Hid (∀ (k:Nat) (c:Rat),C[k]?=some c->∃ s,DotS 0 (colR A k) y (some s)/\CrS s c/\c<=s)) (aA aB aC ay:Option Addr) (cA cB cC cy:Nat) (w:World) (uA:UM w aA (A.map (·.map some))) (uB:UQ w aB (b.map some)) (uC:UQ w aC (C.map some)) (uy:UQ w ay (y.map some)) (hE:Env w) :
  Calls Tryz.prog 47 #[.agg #[.slice aA A.length cA,.slice aB b.length cB,.slice aC C.length cC],.slice ay y.length cy] w λ e w' => e=.returned (.bool true)/\Below w.heap.size w w':=by
 have hy6:y.length<=1000000:=by have:=hl.out; omega
 have hA6:=hl.out.1;have hC6:=hl.out.2.2.2.1;have hyb:=hii hl.out.2.1;go_enter Tryz.func47,Tryz.ntmps47;go_upto_region 1 with fail;have hb:=bA w (.cells #[.slice aA A.length cA,.slice aB b.length cB,.slice aC C.length cC] 30);have rA:Row (w.alloc (.cells #[.slice aA A.length cA,.slice aB b.length cB,.slice aC C.length cC] 30)) w.heap.size 30 [.slice aA A.length cA,.slice aB b.length cB,.slice aC C.length cC]:=heap_alloc_new _ _;obtain ⟨g,hg⟩:=exi (w.heap.size);rw [<- hg] at rA |-;clear hg;generalize w.alloc (.cells #[.slice aA A.length cA,.slice aB b.length cB,.slice aC C.length cC] 30)=w1 at *;have hbw:=hb;clear hb;obtain ⟨x0,x1,x2⟩:=rA.n3;have hyx:=congrArg Int.ofNat hyb.out;simp only [Int.ofNat_eq_natCast] at hyx;go_wp2_with fail;clear x0 x1 x2 hyx;go_loopw [5] (λ s wr => ∃ k:Nat,k<=y.length/\s=.int .i64 (k:Nat)/\Below w.heap.size w wr/\Row wr g 30 [.slice aA A.length cA,.slice aB b.length cB,.slice aC C.length cC]) (λ s _ => y.length - (intOf s).toNat)
 case atStart => exact ⟨0,Nat.zero_le _,rfl,hbw,rA⟩
 case round =>
  clear hbw rA;obtain ⟨k,hk,rfl,hbw,rA⟩:=hrel
  by_cases hlt:k < y.length
  ·obtain ⟨r,hr0⟩:∃ r,y[k]?=some r:=⟨y[k],gE hlt⟩;have Hnn:Hid (negR r=false):=hii (h0.out r (List.mem_of_getElem? hr0));obtain ⟨b1,off1,ng1,ao1,n1,cap1,nh1,ap1,m1,caq1,e1,FA,hv⟩:=(uy.mono hbw) k (some r) (by rw [List.getElem?_map,hr0]; rfl);have HV:Hid (RatV wr _ r):=hii hv;have hEr:=hE.mono hbw;obtain ⟨s,hs⟩:∃ s,sgnI r.num=s:=⟨_,rfl⟩;have Hs:=hii hs;have Hs0:Hid (¬ s < 0):=hii λ h => by
    have:=Hnn.out;unfold negR at this;rw [<- sgnI_neg,hs] at this;exact absurd h (of_decide_eq_false this)
   clear hs hr0 hv;subst e1;obtain ⟨f0,f1,f2,f3,_,_,_,_⟩:=id FA;go_wp2_with fail;(with_reducible refine (rValid_true _ r wr HV.out hEr).mono ?_);rintro e w2 ⟨rfl,hb⟩;have hbw:=bu hbw hb;have rA:=rA.below hb;have FA:=FA.mono hb;have HV:Hid (RatV w2 _ r):=hii (HV.out.mono hb);clear hb f0 f1 f2 f3 hEr;obtain ⟨f0,f1,f2,f3,_,_,_,_⟩:=FA;obtain ⟨_,_,_,_,_,_,_,_,e2,hv1,hv2⟩:=HV.out
   cases e2
   go_wp2_with fail;(with_reducible refine (rSign_eq _ r.num s w2 Hs hv1).mono ?_);rintro e w3 ⟨rfl,hb⟩;have hbw:=bu hbw hb;have rA:=rA.below hb;have hz:=Hs0.out;clear hb f0 f1 f2 f3 hv1 hv2 HV;go_wp2;go_roundw
   case rel => exact ⟨k + 1,by omega,by go_num,hbw,rA⟩
   case measure => simp [intOf]; omega
  ·clear hk;obtain ⟨x0,x1,x2⟩:=rA.n3;go_wp2_with fail;clear x0 x1 x2;obtain ⟨wp,rfl⟩:=exi wr;have hbw0:=hbw;have rA0:=rA;clear hbw rA;go_loopw [6] (λ s wr => ∃ i:Nat,i<=C.length/\s=.int .i64 (i:Nat)/\Below w.heap.size w wr/\Row wr g 30 [.slice aA A.length cA,.slice aB b.length cB,.slice aC C.length cC]) (λ s _ => C.length - (intOf s).toNat)
   case atStart => exact ⟨0,Nat.zero_le _,rfl,hbw0,rA0⟩
   case round =>
    clear hbw0 rA0;obtain ⟨i,hi,rfl,hbw,rA⟩:=hrel;obtain ⟨x0,x1,x2⟩:=rA.n3
    by_cases hli:i < C.length
    ·obtain ⟨c,hc⟩:∃ a,C[i]?=some a:=⟨C[i],gE hli⟩;obtain ⟨s,hDs,hCs,hle⟩:=hD.out i c hc;obtain ⟨b1,off1,ng1,ao1,n1,cap1,nh1,ap1,m1,caq1,eb,FB,hv⟩:=(uC.mono hbw) i (some c) (by rw [List.getElem?_map,hc]; rfl);have hv:RatV wr _ c:=hv;obtain ⟨z,hz0⟩:∃ z,Rq.cmpQ s c=z:=⟨_,rfl⟩;have HDs:=hii hDs;have HCs:=hii hCs;have Hz:=hii hz0;have Hz0:Hid (¬ z < 0):=hii λ h => Rat.not_lt.2 hle (cmpQ_lt.1 (by rw [hz0]; exact h))
     have HJ:Hid (∀ r∈A,i < r.length):=hii λ r hr' => by rw [hr.out r hr']; exact hli
     have Hcl:Hid ((colR A i).length=y.length):=hii (by rw [colR_length,hl.out.2.2.2.2,hl.out.2.1]);have hEr:=hE.mono hbw;have uyr:=uy.mono hbw;have uAr:=uA.mono hbw;clear hDs hCs hz0 hc hle;subst eb;go_upto_region 11 with fail;clear x0 x1 x2;refine wp_region_vals (wx:=wr) [(λ _ v => v=.agg #[.slice aA A.length cA,.slice aB b.length cB,.slice (some ⟨b1,off1,none⟩) C.length cC]),(λ _ v => v=.int .i64 (i:Nat)),(λ W v => ColV W (colR A i) v),(λ _ v => v=.slice ay y.length cy),(λ W v => RatV W v s),(λ _ v => v=.pointer (some ⟨g,2,none⟩)),(λ _ v => v=.slice (some ⟨b1,off1,none⟩) C.length cC),(λ _ v => v=.int .i64 (i:Nat)),(λ _ v => v=.pointer (some ⟨b1,off1 + i * 4,none⟩)),(λ _ v => v=.agg #[.bool ng1,.slice ao1 n1 cap1,.bool nh1,.slice ap1 m1 caq1]),(λ _ v => v=.int .i64 z),(λ _ v => v=.bool (decide (z < 0)))] [41,42,43,44,45,46,47,48,49,50,51,52] (by kernel_rfl) (by kernel_rfl) (by kernel_rfl) (of_decide_eq_true (by kernel_rfl)) br ⟨sV _,sV _,λ _ _ _ h hb => h.mono hb,sV _,λ _ _ _ h hb => h.mono hb,sV _,sV _,sV _,sV _,sV _,sV _,sV _,trivial⟩ ⟨?s0,?s1,?s2,?s3,?s4,?s5,?s6,?s7,?s8,?s9,?s10,?s11,trivial⟩ ?he
     case' s0 | s1 | s2 | s3 | s4 | s5 | s6 | s7 | s8 | s9 | s10 | s11 =>
      rintro T W hb hA K hK
     case' s0 =>
      simp only [ovr,Act.put,sT,sZ,sS] at hK |-;have HK:=hii hK;clear hK hA;obtain ⟨x0,x1,x2⟩:=(rA.below hb).n3
     case' s6 =>
      have e5:T 46=.pointer (some ⟨g,2,none⟩):=hA.1;simp only [ovr,Act.put,sT,sZ,sS,e5] at hK |-;have HK:=hii hK;clear hK hA;obtain ⟨x0,x1,x2⟩:=(rA.below hb).n3
     case' s9 =>
      have e8:T 49=.pointer (some ⟨b1,off1 + i * 4,none⟩):=hA.1;simp only [ovr,Act.put,sT,sZ,sS,e8] at hK |-;have HK:=hii hK;clear hK hA;obtain ⟨f0,f1,f2,f3,_,_,_,_⟩:=FB.mono hb
     case' s1 | s3 | s5 | s7 =>
      simp only [ovr,Act.put,sT,sZ,sS] at hK |-
     case' s8 =>
      have e6:T 47=.slice (some ⟨b1,off1,none⟩) C.length cC:=hA.1;have e7:T 48=.int .i64 (i:Nat):=hA.2.1;simp only [ovr,Act.put,sT,sZ,sS,e6,e7] at hK |-
     case' s11 =>
      have e10:T 51=.int .i64 z:=hA.1;simp only [ovr,Act.put,sT,sZ,sS,e10] at hK |-
     case s0 | s6 | s9 =>
      refine wO rfl (by rfl) ?_;go_simp;exact HK.out _ _ br (rfl)
     case s1 | s3 | s5 | s7 | s8 | s11 =>
      have HK:=hii hK;clear hK hA;refine wO rfl (by rfl) ?_;go_simp;exact HK.out _ _ br (rfl)
     case s2 =>
      have e0:T 41=.agg #[.slice aA A.length cA,.slice aB b.length cB,.slice (some ⟨b1,off1,none⟩) C.length cC]:=hA.1;have e1:T 42=.int .i64 (i:Nat):=hA.2.1;simp only [ovr,Act.put,sT,sZ,sS,e0,e1] at hK |-;have HK:=hii hK;clear hK hA;refine wO rfl (by rfl) ?_;go_simp;(with_reducible refine (rtrans13 A i aA aB (some ⟨b1,off1,none⟩) cA b.length cB C.length cC W hA6 (uAr.mono hb) HJ.out).mono ?_);rintro e w1 ⟨⟨aq,cq,rfl,hU⟩,hb1⟩
      try dsimp only
      exact HK.out _ _ hb1 (⟨aq,cq,rfl,hU⟩)
     case s4 =>
      have r2:((λ W v => ColV W (colR A i) v):World->Value->Prop) W (T 43):=hA.1;have e3:T 44=.slice ay y.length cy:=hA.2.1;simp only [ovr,Act.put,sT,sZ,sS,e3] at hK |-;have HK:=hii hK;clear hK hA;have r2:ColV W (colR A i) _:=r2;obtain ⟨aq,cq,e2,hU⟩:=r2;rw [e2] at HK |-;refine wO rfl (by rfl) ?_;go_simp;(with_reducible refine (rdot13 (colR A i) y s aq ay cq cy W (by rw [Hcl.out]; omega) Hcl.out hU (uyr.mono hb) HDs (hEr.mono hb)).mono ?_);rintro e w1 ⟨hz,hb1⟩;obtain ⟨ng5,ao5,n5,cap5,nh5,ap5,m5,caq5,rfl,hV⟩:=hz.rat
      try dsimp only
      exact HK.out _ _ hb1 (hV)
     case s10 =>
      have r4:((λ W v => RatV W v s):World->Value->Prop) W (T 45):=hA.1;have e9:T 50=.agg #[.bool ng1,.slice ao1 n1 cap1,.bool nh1,.slice ap1 m1 caq1]:=hA.2.1;simp only [ovr,Act.put,sT,sZ,sS,e9] at hK |-;have HK:=hii hK;clear hK hA;have r4:RatV W _ s:=r4;obtain ⟨ng6,ao6,n6,cap6,nh6,ap6,m6,caq6,e6⟩:=r4.parts;rw [e6] at r4;simp only [e6] at HK |-;refine wO rfl (by rfl) ?_;go_simp;(with_reducible refine (rcmp13 _ _ s c z W r4 (hv.mono hb) HCs Hz (hEr.mono hb)).mono ?_);rintro e w1 ⟨rfl,hb1⟩
      try dsimp only
      exact HK.out _ _ hb1 (rfl)
     case he =>
      rintro T W hb hA;have f11:T 52=.bool (decide (z < 0)):=hA.at 11 (by decide);have hbw:=bu hbw hb;have rA:=rA.below hb;simp only [ovr,sT,sZ,sS,f11];clear hA f11 hb hv FB hEr uyr uAr;obtain ⟨w3,rfl⟩:=exi W;have hpd:decide (z < 0)=false:=decide_eq_false Hz0.out;go_wp2;go_roundw
      case rel => exact ⟨i + 1,by omega,by go_num,hbw,rA⟩
      case measure => simp [intOf]; omega
    ·clear hi;go_wp2;go_ret;exact ⟨rfl,hbw⟩
theorem risray13 (A:List (List Rat)) (b C x:List Rat) (hl:Hid (A.length<=1000000/\x.length=C.length/\C.length<=1000000)) (hr:Hid (∀ r∈A,r.length=C.length)) (h0:Hid (∀ r∈x,negR r=false)) (hD:Hid (∀ a∈A,∃ s,DotS 0 a x (some s)/\s.num<=0)) (hDc:Hid (∃ s,DotS 0 C x (some s)/\0 < s.num)) (aA aB aC ay:Option Addr) (cA cB cC cy:Nat) (w:World) (uA:UM w aA (A.map (·.map some))) (uB:UQ w aB (b.map some)) (uC:UQ w aC (C.map some)) (uy:UQ w ay (x.map some)) (hE:Env w) :
  Calls Tryz.prog 15 #[.agg #[.slice aA A.length cA,.slice aB b.length cB,.slice aC C.length cC],.slice ay x.length cy] w λ e w' => e=.returned (.bool true)/\Below w.heap.size w w':=by
 have hy6:x.length<=1000000:=by have:=hl.out; omega
 have hA6:=hl.out.1;have hC6:=hl.out.2.2;have hyb:=hii hl.out.2.1;go_enter Tryz.func15,Tryz.ntmps15;go_upto_region 1 with fail;have hb:=bA w (.cells #[.slice aA A.length cA,.slice aB b.length cB,.slice aC C.length cC] 30);have rA:Row (w.alloc (.cells #[.slice aA A.length cA,.slice aB b.length cB,.slice aC C.length cC] 30)) w.heap.size 30 [.slice aA A.length cA,.slice aB b.length cB,.slice aC C.length cC]:=heap_alloc_new _ _;obtain ⟨g,hg⟩:=exi (w.heap.size);rw [<- hg] at rA |-;clear hg;generalize w.alloc (.cells #[.slice aA A.length cA,.slice aB b.length cB,.slice aC C.length cC] 30)=w1 at *;have hbw:=hb;clear hb;obtain ⟨x0,x1,x2⟩:=rA.n3;have hyx:=congrArg Int.ofNat hyb.out;simp only [Int.ofNat_eq_natCast] at hyx;go_wp2_with fail;clear x0 x1 x2 hyx;go_loopw [5] (λ s wr => ∃ k:Nat,k<=x.length/\s=.int .i64 (k:Nat)/\Below w.heap.size w wr/\Row wr g 30 [.slice aA A.length cA,.slice aB b.length cB,.slice aC C.length cC]) (λ s _ => x.length - (intOf s).toNat)
 case atStart => exact ⟨0,Nat.zero_le _,rfl,hbw,rA⟩
 case round =>
  clear hbw rA;obtain ⟨k,hk,rfl,hbw,rA⟩:=hrel
  by_cases hlt:k < x.length
  ·obtain ⟨r,hr0⟩:∃ r,x[k]?=some r:=⟨x[k],gE hlt⟩;have Hnn:Hid (negR r=false):=hii (h0.out r (List.mem_of_getElem? hr0));obtain ⟨b1,off1,ng1,ao1,n1,cap1,nh1,ap1,m1,caq1,e1,FA,hv⟩:=(uy.mono hbw) k (some r) (by rw [List.getElem?_map,hr0]; rfl);have HV:Hid (RatV wr _ r):=hii hv;have hEr:=hE.mono hbw;obtain ⟨s,hs⟩:∃ s,sgnI r.num=s:=⟨_,rfl⟩;have Hs:=hii hs;have Hs0:Hid (¬ s < 0):=hii λ h => by
    have:=Hnn.out;unfold negR at this;rw [<- sgnI_neg,hs] at this;exact absurd h (of_decide_eq_false this)
   clear hs hr0 hv;subst e1;obtain ⟨f0,f1,f2,f3,_,_,_,_⟩:=id FA;go_wp2_with fail;(with_reducible refine (rValid_true _ r wr HV.out hEr).mono ?_);rintro e w2 ⟨rfl,hb⟩;have hbw:=bu hbw hb;have rA:=rA.below hb;have FA:=FA.mono hb;have HV:Hid (RatV w2 _ r):=hii (HV.out.mono hb);clear hb f0 f1 f2 f3 hEr;obtain ⟨f0,f1,f2,f3,_,_,_,_⟩:=FA;obtain ⟨_,_,_,_,_,_,_,_,e2,hv1,hv2⟩:=HV.out
   cases e2
   go_wp2_with fail;(with_reducible refine (rSign_eq _ r.num s w2 Hs hv1).mono ?_);rintro e w3 ⟨rfl,hb⟩;have hbw:=bu hbw hb;have rA:=rA.below hb;have hz:=Hs0.out;clear hb f0 f1 f2 f3 hv1 hv2 HV;go_wp2;go_roundw
   case rel => exact ⟨k + 1,by omega,by go_num,hbw,rA⟩
   case measure => simp [intOf]; omega
  ·clear hk;obtain ⟨x0,x1,x2⟩:=rA.n3;go_wp2_with fail;clear x0 x1 x2;obtain ⟨wp,rfl⟩:=exi wr;have hbw0:=hbw;have rA0:=rA;clear hbw rA;go_loopw [6] (λ s wr => ∃ i:Nat,i<=A.length/\s=.int .i64 (i:Nat)/\Below w.heap.size w wr/\Row wr g 30 [.slice aA A.length cA,.slice aB b.length cB,.slice aC C.length cC]) (λ s _ => A.length - (intOf s).toNat)
   case atStart => exact ⟨0,Nat.zero_le _,rfl,hbw0,rA0⟩
   case round =>
    clear hbw0 rA0;obtain ⟨i,hi,rfl,hbw,rA⟩:=hrel;obtain ⟨x0,x1,x2⟩:=rA.n3;have hEr:=hE.mono hbw;have uyr:=uy.mono hbw
    by_cases hli:i < A.length
    ·obtain ⟨a,ha⟩:∃ a,A[i]?=some a:=⟨A[i],gE hli⟩;obtain ⟨s,hDs,hle⟩:=hD.out a (List.mem_of_getElem? ha);obtain ⟨b0,off0,ar,cr,ea,hc,ur⟩:=(uA.mono hbw) i (a.map some) (by rw [List.getElem?_map,ha]; rfl);rw [List.length_map] at hc;have Hal:Hid (a.length=x.length):=hii (by rw [hr.out a (List.mem_of_getElem? ha),hyb.out]);have ha6:a.length<=1000000000:=by rw [Hal.out]; omega
     have HDs:=hii hDs;obtain ⟨z,hz0⟩:∃ z,sgnI s.num=z:=⟨_,rfl⟩;have Hz:=hii hz0;have hz:¬ 0 < z:=by rw [<- hz0]; unfold sgnI; split <;> (try split) <;> omega
     clear hDs ha hle hz0;subst ea;go_wp2_with fail;(with_reducible refine (rdot13 a x s ar ay cr cy wr ha6 Hal.out ur uyr HDs hEr).mono ?_);rintro e w2 ⟨hg,hb⟩;obtain ⟨_,_,_,_,_,_,_,_,rfl,hV1,hV2⟩:=hg;have hbw:=bu hbw hb;have rA:=rA.below hb;clear hb hc ur uyr hEr x0 x1 x2 hV2;go_wp2_with fail;rw [field0];go_wp2_with fail;(with_reducible refine (rSign_eq _ s.num z w2 Hz hV1.out).mono ?_);rintro e w3 ⟨rfl,hb⟩;have hbw:=bu hbw hb;have rA:=rA.below hb;clear hb hV1;go_wp2;go_roundw
     case rel => exact ⟨i + 1,by omega,by go_num,hbw,rA⟩
     case measure => simp [intOf]; omega
    ·clear hi;obtain ⟨s,hDs,hle⟩:=hDc.out;have HDs:=hii hDs;obtain ⟨z,hz0⟩:∃ z,sgnI s.num=z:=⟨_,rfl⟩;have Hz:=hii hz0;have hz:0 < z:=by rw [<- hz0]; unfold sgnI; split <;> (try split) <;> omega
     have HCx:Hid (C.length=x.length):=hii hyb.out.symm;clear hDs hle hz0;go_wp2_with fail;(with_reducible refine (rdot13 C x s aC ay cC cy wr (by omega) HCx.out (uC.mono hbw) uyr HDs hEr).mono ?_);rintro e w2 ⟨hg,hb⟩;obtain ⟨_,_,_,_,_,_,_,_,rfl,hV1,hV2⟩:=hg;have hbw:=bu hbw hb;clear hb uyr hEr x0 x1 x2 hV2;go_wp2_with fail;rw [field0];go_wp2_with fail;(with_reducible refine (rSign_eq _ s.num z w2 Hz hV1.out).mono ?_);rintro e w3 ⟨rfl,hb⟩;have hbw:=bu hbw hb;clear hb hV1;go_wp2;go_ret;exact ⟨by simp [hz],hbw⟩
end Go.Proofs.YtileholjbdhmjaaGreatDoor
