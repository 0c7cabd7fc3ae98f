/-
  The simplex method: Solve.
-/
import Derived.Test.YtfgffkmddanjjaaGreatDoorSj
set_option linter.unusedVariables false
set_option linter.unusedSimpArgs false
set_option maxRecDepth 100000
set_option maxHeartbeats 25600000
namespace Go.Proofs.YtfgffkmddanjjaaGreatDoor
open _root_.Go.Proofs.Tryz
open Go.RowKit
def zn7 (A:List (List Rat)) (b C:List Rat) (m n:Nat) (w':World) (e:Ending):Prop :=
 (∃ val X Y vo,e=.returned (.tuple #[vo,.int .i64 0])/\znb w' vo (some val) (X.map some) (Y.map some)/\znP A b C m n val X Y) \/
 (∃ Z,e=.returned (.tuple #[.agg #[.bool false,.slice none 0 0,.bool false,.slice none 0 0,.slice none 0 0,.slice none 0 0],.int .i64 15])/\znr A b C m n Z)
theorem zgo {A:List (List Rat)} {b C:List Rat} {m n:Nat} (hv:Prg.err ⟨A.map (·.map some),b.map some,C.map some⟩=0) (hA:A.length=m) (hB:b.length=m) (hC:C.length=n) (aA aB aC:Option Addr) (cA cB cC:Nat) (w:World) (uA:UM w aA (A.map (·.map some))) (uB:UQ w aB (b.map some)) (uC:UQ w aC (C.map some)) (hE:Env w) :
  Calls Tryz.prog 114 #[.agg #[.slice aA m cA,.slice aB m cB,.slice aC n cC]] w λ e w' => e=.returned (.int .i64 0)/\BH w w':=by
 have h:=zhj ⟨A.map (·.map some),b.map some,C.map some⟩ (.agg #[.slice aA m cA,.slice aB m cB,.slice aC n cC]) w ⟨aA,cA,aB,cB,aC,cC,by simp [hA,hB,hC],uA,uB,uC⟩ hE;rw [hv] at h;exact h
theorem zlr {w:World} {gx n q k:Nat} {J3:Bool} {ao3:Option Addr} {n3 Y3:Nat} {K3:Bool} {ap3:Option Addr} {m3 Z3:Nat} {ac:Option Addr} {cc:Nat} {val:Rat} {X Y:List Rat} (hV:zac w (qA J3 ao3 n3 Y3 K3 ap3 m3 Z3) val) (hX:UQ w (some ⟨gx,0,none⟩) (X.map some)) (hY:UQ w ac (Y.map some)) (hn:X.length=n) (hk:Y.length=k) :
  znb w (.agg #[.bool J3,.slice ao3 n3 Y3,.bool K3,.slice ap3 m3 Z3,.slice (some ⟨gx,0,none⟩) n q,.slice ac k cc]) (some val) (X.map some) (Y.map some) :=
 ⟨_,_,_,_,_,_,_,_,_,_,_,_,by rw [List.length_map,List.length_map,hn,hk],hV,hX,hY⟩
theorem zjW (f:Nat->Rat) {n q:Nat} (h:n<=q):(ptL f q).take n=ptL f n:=by
 unfold ptL;rw [<- List.map_take,List.take_range,Nat.min_eq_left h]
theorem UQ.take {w:World} {ao:Option Addr} {l:List Qo} (h:UQ w ao l) (n:Nat):UQ w ao (l.take n):=by
 intro i o hi;refine h i o ?_;rw [List.getElem?_take] at hi
 split at hi
 ·exact hi
 ·cases hi
theorem zjE (A:List (List Rat)) (b C:List Rat) (m n:Nat) (hv:Hid (Prg.err ⟨A.map (·.map some),b.map some,C.map some⟩=0)) (hd:Hid (SzD (zbc A b C m n) m n (n + m))) (hA:Hid (A.length=m/\∀ r∈A,r.length=n)) (hB:Hid (b.length=m/\∀ x∈b,0<=x)) (hC:Hid (C.length=n)) (hm:1<=m/\m<=1000) (hn:1<=n/\n<=1000) (aA aB aC:Option Addr) (cA cB cC:Nat) (w:World) (uA:UM w aA (A.map (·.map some))) (uB:UQ w aB (b.map some)) (uC:UQ w aC (C.map some)) (hE:Env w) :
  Calls Tryz.prog 66 #[.agg #[.slice aA m cA,.slice aB m cB,.slice aC n cC]] w λ e w' => zn7 A b C m n w' e/\BH w w':=by
 have hE0:=hE;go_enter func66,ntmps66;go_upto_region 1 with fail;obtain ⟨wx,hwx,r1,r2,hb⟩:=zaO w 105 109 [.slice aA m cA,.slice aB m cB,.slice aC n cC] [.bool false,.slice none 0 0,.bool false,.slice none 0 0,.slice none 0 0,.slice none 0 0];simp only [List.toArray] at hwx;rw [<- hwx];clear hwx;obtain ⟨g2,hg2⟩:=exi (w.heap.size + 1);have Hg2:Hid (w.heap.size<=g2):=hii (by omega);rw [<- hg2] at r2 |-;clear hg2;obtain ⟨g1,hg1⟩:=exi (w.heap.size);rw [<- hg1] at r1 |-;clear hg1;obtain ⟨w1,rfl⟩:=exi wx;have uA:=uA.mono hb;have uB:=uB.mono hb;have uC:=uC.mono hb;have hE:=hE.mono hb;have hbw:=hb;clear hb;have HV:=hii (zgo hv.out hA.out.1 hB.out.1 hC.out aA aB aC cA cB cC w1 uA uB uC hE);obtain ⟨x0,x1,x2⟩:=r1.n3;go_wp2_with fail;go_fit (HV.out);rintro e w2 ⟨rfl,hb⟩;have uA:=uA.mono hb;have uB:=uB.mono hb;have uC:=uC.mono hb;have hE:=hE.mono hb;have r1:=r1.below hb;have r2:=r2.below hb;have hbw:=bu hbw hb;clear hb HV x0 x1 x2;obtain ⟨x0,x1,x2⟩:=r1.n3;have HFe:Hid (Sx.Feas (zbc A b C m n) (zbW A b C m n) (λ i => n + i)):=hii (zh1 hB.out.2);have HB1:Hid (b.length=m):=hii hB.out.1;have Hl2:=hii r2.lt;go_wp2_with fail;go_fit (zko A b C m n hA HB1 hC hm hn aA aB aC cA cB cC w2 uA uB uC hE);rintro e w3 ⟨⟨g,ga,ca,gb,cb,rr,cr,rfl,h⟩,hb⟩;obtain ⟨B,hBB⟩:=exi (w2.heap.size);rw [<- hBB] at h;have HBB:Hid (w.heap.size<=B):=hii (by rw [hBB]; exact hbw.size);have r2:=r2.below hb;have Hg2B:Hid (g2 < B):=hii (by rw [hBB]; exact Hl2.out);have hbw:=bu hbw hb;clear hb hBB x0 x1 x2 r1 uA uB uC hE;have Hrun:=hii (zmz (zbc A b C m n) hd w3 h HFe);go_wp2_with fail;go_fit (Hrun.out);rintro e w4 ⟨⟨z,L,bs,rfl,HR,h⟩,hb⟩;have r2:=r2.under hb Hg2B.out;have hbw:BH w w4:=hbw.trans (hb.mono HBB.out);clear hb Hrun HFe;rcases HR.out with ⟨hF,⟨rfl,hl⟩ | ⟨k,rfl,hk,hneg,hcol⟩⟩
 ·have HF:=hii hF;have Hl:=hii hl;clear HR hF hl;have hq2:n + m<=2000:=by omega
  obtain ⟨q,hq⟩:∃ q,q=n + m:=⟨_,rfl⟩;rw [<- hq] at h hd;have Hq:=hii hq;have hq2:q<=2000:=by omega
  clear hq;go_wp2_with fail;go_fit (zcs g ga ca gb cb m n q Hq.out hm.2 hn.2 w4 h.box);rintro e w5 ⟨rfl,hb⟩;have h:=h.mono hb;have r2:=r2.below hb;have hbw:=bu hbw hb;clear hb;go_wp2_with (at_make; refine zlb w5 rfl _ _ rfl q rfl rfl (by omega) ?_; intro w6 hM hb);obtain ⟨gx,hgx⟩:=exi (w5.heap.size);have HgB:Hid (B<=gx/\w.heap.size<=gx):=hii (by have:=h.size; have:=hbw.size; omega);have Hgs:Hid (g ≠ gx/\ga ≠ gx/\gb ≠ gx/\g2 ≠ gx/\∀ i,i<=m->rr i ≠ gx):=hii (by
   have h1:=h.box.lt;have h2:=h.lt;have h3:=h.lowB.2;have h4:=r2.lt;refine ⟨by omega,by omega,by omega,by omega,λ i hi => ?_⟩;have:=(h.lowR hi).2;omega)
  rw [<- hgx] at hM |-;clear hgx;have h:=h.mono hb;have r2:=r2.below hb;have hbw:=bu hbw hb;have hM0:MQ w6 gx (List.replicate 0 (some (0:Rat)) ++ List.replicate (q - 0) none):=by simpa using hM
  clear hb hM;go_wp2_with fail;go_loopw [38] (λ s wr => ∃ k:Nat,k<=q/\s=.int .i64 (k:Nat)/\MQ wr gx (List.replicate k (some (0:Rat)) ++ List.replicate (q - k) none)/\TB wr B g ga ca gb cb m n q rr cr L bs/\Row wr g2 109 [.bool false,.slice none 0 0,.bool false,.slice none 0 0,.slice none 0 0,.slice none 0 0]/\BH w wr) (λ s _ => q - (intOf s).toNat)
  case atStart => exact ⟨0,Nat.zero_le _,rfl,hM0,h,r2,hbw⟩
  case round =>
   clear hM0 h r2 hbw;obtain ⟨k,hk,rfl,hM,h,r2,hbw⟩:=hrel
   by_cases hlt:k < q
   ·have hE3:=hE0.mono hbw;go_wp2_with fail;go_fit (zee wr hE3);rintro e w7 ⟨hz,hb⟩;obtain ⟨J1,ao1,n1,Y1,K1,ap1,m1,Z1,rfl,hv0⟩:=hz.rat;have hM:=hM.mono hb;have h:=h.mono hb;have r2:=r2.below hb;have hbw:=bu hbw hb;clear hb hz hE3;have hlM:k < (List.replicate k (some (0:Rat)) ++ List.replicate (q - k) (none:Qo)).length:=by simp; omega
    obtain ⟨_,_,_,_,_,_,_,_,c0,c1,c2,c3,f0,f1,f2,f3,-⟩:=hM.four hlM;obtain ⟨hput,hkp⟩:=hM.put (o:=some 0) hlM hv0;rw [zjU hlt] at hput;have Hput:=hii hput;have Hkp:=hii hkp;have hno:=hM.noG.u;have H2:=hii (h.kept Hkp.out hno (λ b e => by rw [e]; exact HgB.out.1) ⟨Hgs.out.1,Hgs.out.2.1,Hgs.out.2.2.1⟩ Hgs.out.2.2.2.2);have r22:=hii (r2.mono Hkp.out Hgs.out.2.2.2.1);clear hput hkp hM hlM hno;go_wp2;go_roundw
    case rel => exact ⟨k + 1,by omega,by go_num,Hput.out,H2.out,r22.out,hbw.trans (Hkp.out.below (λ b hb => by rw [hb]; exact HgB.out.2) hbw.size)⟩
    case measure => simp [intOf]; omega
   ·have hke:k=q:=by omega
    have hM0:MQ wr gx (ptL (pI q L bs 0) q):=by
     rw [<- zlk];rw [hke,Nat.sub_self] at hM
     simpa using hM
    clear hM hke hk;have h0:=h;have r20:=r2;have hb0:=hbw;clear h r2 hbw;obtain ⟨x0,x1,x2,x3,x4⟩:=h0.box.n5;obtain ⟨wp,rfl⟩:=exi wr;go_wp2_with fail;clear x0 x1 x2 x3 x4;go_loopw [51] (λ s wr => ∃ i:Nat,i<=m/\s=.int .i64 (i:Nat)/\MQ wr gx (ptL (pI q L bs i) q)/\TB wr B g ga ca gb cb m n q rr cr L bs/\Row wr g2 109 [.bool false,.slice none 0 0,.bool false,.slice none 0 0,.slice none 0 0,.slice none 0 0]/\BH w wr) (λ s _ => m - (intOf s).toNat)
    case atStart => exact ⟨0,Nat.zero_le _,rfl,hM0,h0,r20,hb0⟩
    case round =>
     clear hM0 h0 r20 hb0;obtain ⟨i,hi,rfl,hM,h,r2,hbw⟩:=hrel
     by_cases hlti:i < m
     ·obtain ⟨b0,-⟩:=h.basAt hlti;have hbq:bs i < q:=by
       have h1:=HF.out.inv.bas i hlti;rw [Hq.out]; exact h1
      have hno:=hM.noG.u;go_upto_region 19 with fail;refine zog h hlti (zaN _ _) hbq hM ?_;rintro T w7 hM7 hk7;rw [zmG hlti hbq (λ s t hs ht e => HF.out.inv.inj hs ht e)] at hM7;have h:=h.kept hk7 hno (λ b e => by rw [e]; exact HgB.out.1) ⟨Hgs.out.1,Hgs.out.2.1,Hgs.out.2.2.1⟩ Hgs.out.2.2.2.2;have r2:=r2.mono hk7 Hgs.out.2.2.2.1;have hbw:=hbw.trans (hk7.below (λ b hb => by rw [hb]; exact HgB.out.2) hbw.size);clear hk7 hM hno b0;go_wp2;go_roundw
      case rel => exact ⟨i + 1,by omega,by go_num,hM7,h,r2,hbw⟩
      case measure => simp [intOf]; omega
     ·have hie:i=m:=by omega
      rw [hie] at hM;clear hie hi;go_upto_region 21 with fail;refine zof h ?_;rintro T w7 hb7;have h:=h.mono hb7;have r2:=r2.below hb7;have hM:=hM.mono hb7;have hbw:=bu hbw hb7;clear hb7;go_upto_region 22 with fail;refine zoe h (by omega) (by omega) hM r2 ?_;rintro T2 w8 J3 ao3 n3 Y3 K3 ap3 m3 Z3 ac cc rO hY V3 hk8;have hno:=r2.noG' (by intro u hu; simp at hu; rcases hu with rfl | rfl | rfl | rfl | rfl | rfl <;> intro k z e <;> cases e);have hM8:=hM.kept hk8 hno (λ e => Hgs.out.2.2.2.1 e.symm);have V8:=V3.kept hk8 hno;have hX:=hM8.read.take n;rw [zjW _ (by have:=Hq.out; omega)] at hX;have hbw:=hbw.trans (hk8.below (λ b hb => by rw [hb]; exact Hg2.out) hbw.size);have HO:Hid (znP A b C m n (L m q) ((List.range n).map (Sx.pnt (zbc A b C m n) L bs)) ((List.range m).map λ i => L m (n + i))):=hii ⟨L,bs,HF.out,Hl.out,by rw [Hq.out],rfl,rfl⟩;have eX:ptL (pI q L bs m) n=((List.range n).map (Sx.pnt (zbc A b C m n) L bs)).map some:=by
       unfold ptL;rw [List.map_map];refine List.map_congr_left λ v _ => ?_
       show some (pI q L bs m v)=some (Sx.pnt (zbc A b C m n) L bs v)
       rw [Hq.out]; rfl
      have eY:((List.range (q - n)).map λ i => some (L m (n + i)))=((List.range m).map λ i => L m (n + i)).map some:=by
       rw [List.map_map,show q - n=m by have:=Hq.out; omega]; rfl
      rw [eX] at hX;rw [eY] at hY;have HOV:=hii (zlr (q:=q) (cc:=cc) (n:=n) (k:=q - n) V8 hX hY (by rw [List.length_map,List.length_range]) (by rw [List.length_map,List.length_range]; have:=Hq.out; omega));clear hX hY V3 V8 hM hM8 r2 hk8 hno eX eY;obtain ⟨c0,c1,c2,c3,c4,c5⟩:=rO.n6;go_wp2;refine bodyPost_ret (v:=.tuple #[.agg #[.bool J3,.slice ao3 n3 Y3,.bool K3,.slice ap3 m3 Z3,.slice (some ⟨gx,0,none⟩) n q,.slice ac (q - n) cc],.int .i64 0]) (by simp [results,Tryz.results66,go_sem,c0,c1,c2,c3,c4,c5]) rfl ⟨.inl ⟨_,_,_,_,rfl,HOV.out,HO.out⟩,hbw⟩
 ·have HU:Hid (znr A b C m n ((List.range n).map (Sx.rayv (zbc A b C m n) L bs k))):=hii ⟨L,bs,k,hF,hk,hneg,hcol,rfl⟩;have gk:decide ((0:Int)<=(k:Int))=true:=decide_eq_true (by omega);clear HR hF hk hneg hcol;obtain ⟨d0,d1,d2,d3,d4,d5⟩:=r2.n6;have fz:=r2.free;go_wp2;have q:=((((((r2.set 0 (.bool false)).set 1 (.slice none 0 0)).set 2 (.bool false)).set 3 (.slice none 0 0)).set 4 (.slice none 0 0)).set 5 (.slice none 0 0));obtain ⟨c0,c1,c2,c3,c4,c5⟩:=Row.n6 q;have hk9:zaf (λ b => b=g2) w4 ((((((w4.setCell ⟨g2,0,none⟩ (.bool false)).setCell ⟨g2,1,none⟩ (.slice none 0 0)).setCell ⟨g2,2,none⟩ (.bool false)).setCell ⟨g2,3,none⟩ (.slice none 0 0)).setCell ⟨g2,4,none⟩ (.slice none 0 0)).setCell ⟨g2,5,none⟩ (.slice none 0 0)) :=
   (((((((zaf.refl w4:zaf (λ b => b=g2) w4 w4).setCell (p:=⟨g2,0,none⟩) rfl _).setCell (p:=⟨g2,1,none⟩) rfl _).setCell (p:=⟨g2,2,none⟩) rfl _).setCell (p:=⟨g2,3,none⟩) rfl _).setCell (p:=⟨g2,4,none⟩) rfl _).setCell (p:=⟨g2,5,none⟩) rfl _)
  refine bodyPost_ret (v:=.tuple #[.agg #[.bool false,.slice none 0 0,.bool false,.slice none 0 0,.slice none 0 0,.slice none 0 0],.int .i64 15]) (by simp [results,Tryz.results66,go_sem,c0,c1,c2,c3,c4,c5]) rfl ⟨.inr ⟨_,rfl,HU.out⟩,?_⟩;exact hbw.trans (hk9.below (λ b e => by rw [e]; exact Hg2.out) hbw.size)
end Go.Proofs.YtfgffkmddanjjaaGreatDoor
