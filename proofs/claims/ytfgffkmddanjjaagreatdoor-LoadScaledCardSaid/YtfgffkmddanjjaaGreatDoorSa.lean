import Derived.Test.YtfgffkmddanjjaaGreatDoorDuS
/-
  The small functions of the simplex method: zero, one, negative, calc, width.
-/
import Derived.Test.YtfgffkmddanjjaaGreatDoorNU
set_option linter.unusedVariables false
set_option linter.unusedSimpArgs false
set_option maxRecDepth 100000
set_option maxHeartbeats 25600000
namespace Go.Proofs.YtfgffkmddanjjaaGreatDoor
open _root_.Go.Proofs.Tryz
open Go.RowKit
theorem zhT {z:Int} (h:-1000000<=z/\z<=1000000):IntKind.i64.wrap z=z:=by
 unfold IntKind.wrap;simp [IntKind.bits,IntKind.signed];omega
noncomputable def zfk (n:Nat):Code->Option Code
 | .region k ops d => if k=n then some (.region k ops d) else none
 | .seq a b => (zfk n a).orElse λ _ => zfk n b
 | .cond _ a b => (zfk n a).orElse λ _ => zfk n b
 | .block _ b => zfk n b
 | .loop b => zfk n b
 | .scope b => zfk n b
 | _ => none
noncomputable def rgn (f:Func) (n:Nat):Code:=(f.body.bind (zfk n)).getD .skip
theorem KQ.ok {P:Prop} (h:P):KQ 0 P:=.inl ⟨rfl,h⟩
theorem Below.step' {B:Nat} {a b c:World} (h1:Below B a b) (h2:BH b c) (hB:B<=b.heap.size):Below B a c:=h1.trans (h2.mono hB)
theorem zee (w:World) (hE:Env w) :
  Calls Tryz.prog 118 #[] w λ e w' => zfF w' 0 e/\BH w w':=by
 have hbw:=Below.refl w.heap.size w;go_enter func118,ntmps118;go_upto_region 1 with fail;have X0:=zaX.new w (.bool false) (.slice none 0 0) (.bool false) (.slice none 0 0) 32;have hb:=bA w (.cells #[.bool false,.slice none 0 0,.bool false,.slice none 0 0] 32);generalize w.alloc (.cells #[.bool false,.slice none 0 0,.bool false,.slice none 0 0] 32)=v1 at *;have hE:=hE.mono hb;have hbw:=bu hbw hb;clear hb;go_wp2_with fail;go_fit (zdq 1 (by decide) (by decide) v1 hE);rintro e v2 ⟨⟨J1,ao1,n1,Y1,rfl,HV1⟩,hb⟩;have X0:=X0.mono hb;have hbw:=bu hbw hb;clear hb;obtain ⟨x0a,x0b,x0c,x0d,_,_,_,_⟩:=id X0;go_wp2;refine bodyPost_ret (v:=.agg #[.bool false,.slice none 0 0,.bool J1,.slice ao1 n1 Y1]) (by simp [results,Tryz.results118,go_sem,x0a,x0b,x0c,x0d]) rfl ⟨⟨false,none,0,0,J1,ao1,n1,Y1,rfl,hii ((zai.zero _).put4B X0 (.bool false) (.slice none 0 0) (.bool J1) (.slice ao1 n1 Y1)),hii (HV1.out.put4B X0 (.bool false) (.slice none 0 0) (.bool J1) (.slice ao1 n1 Y1))⟩,Below.put4 hbw (by omega) (.bool false) (.slice none 0 0) (.bool J1) (.slice ao1 n1 Y1)⟩
theorem zla (w:World) (hE:Env w) :
  Calls Tryz.prog 153 #[] w λ e w' => zfF w' 1 e/\BH w w':=by
 have hbw:=Below.refl w.heap.size w;go_enter func153,ntmps153;go_upto_region 1 with fail;have X0:=zaX.new w (.bool false) (.slice none 0 0) (.bool false) (.slice none 0 0) 32;have hb:=bA w (.cells #[.bool false,.slice none 0 0,.bool false,.slice none 0 0] 32);generalize w.alloc (.cells #[.bool false,.slice none 0 0,.bool false,.slice none 0 0] 32)=v1 at *;have hE:=hE.mono hb;have hbw:=bu hbw hb;clear hb;go_wp2_with fail;go_fit (zdq 1 (by decide) (by decide) v1 hE);rintro e v2 ⟨⟨J2,ao2,n2,Y2,rfl,HV2⟩,hb⟩;have X0:=X0.mono hb;have hE:=hE.mono hb;have hbw:=bu hbw hb;clear hb;go_wp2_with fail;go_fit (zdq 1 (by decide) (by decide) v2 hE);rintro e v3 ⟨⟨J1,ao1,n1,Y1,rfl,HV1⟩,hb⟩;have X0:=X0.mono hb;have HV2:=hup HV2 hb;have hbw:=bu hbw hb;clear hb;obtain ⟨x0a,x0b,x0c,x0d,_,_,_,_⟩:=id X0;go_wp2;refine bodyPost_ret (v:=.agg #[.bool J2,.slice ao2 n2 Y2,.bool J1,.slice ao1 n1 Y1]) (by simp [results,Tryz.results153,go_sem,x0a,x0b,x0c,x0d]) rfl ⟨⟨J2,ao2,n2,Y2,J1,ao1,n1,Y1,rfl,hii (HV2.out.put4B X0 _ _ _ _),hii (HV1.out.put4B X0 _ _ _ _)⟩,Below.put4 hbw (by omega) _ _ _ _⟩
theorem zai.flip {w:World} {ng:Bool} {ao:Option Addr} {n cap:Nat} {z:Int} (h:zai w (.agg #[.bool ng,.slice ao n cap]) z) (hz:z ≠ 0):zai w (.agg #[.bool (!ng),.slice ao n cap]) (-z):=by
 obtain ⟨neg,ao',L,cap',e,h1,h2,h3,h4,h5,h6⟩:=h
 cases e
 refine ⟨_,ao,L,cap,rfl,hii ?_,hii (by rw [Int.natAbs_neg]; exact h2.out),hii (by rw [Int.natAbs_neg]; exact h3.out),h4,h5,h6⟩;rw [h1.out]
 by_cases hn:z < 0
 ·rw [decide_eq_true hn,decide_eq_false (by omega)]; rfl
 ·rw [decide_eq_false hn,decide_eq_true (by omega)]; rfl
theorem zei (v:Value) (r:Rat) (w:World) (h:zac w v r) (hE:Env w) :
  Calls Tryz.prog 154 #[v] w λ e w' => zfF w' (-r) e/\BH w w':=by
 obtain ⟨s,hs⟩:∃ s,zaU r.num=s:=⟨_,rfl⟩;have Hs:=hii hs;clear hs;have hbw:=Below.refl w.heap.size w;obtain ⟨J1,ao1,n1,Y1,J2,ao2,n2,Y2,rfl,h1,h2⟩:=h;have HV1:=hii h1;have HV2:=hii h2;clear h1 h2;go_enter func154,ntmps154;go_upto_region 1 with fail;obtain ⟨wx,hwx,r1,r2,hb⟩:=zaO w 32 32 [.bool J1,.slice ao1 n1 Y1,.bool J2,.slice ao2 n2 Y2] [.bool false,.slice none 0 0,.bool false,.slice none 0 0];simp only [List.toArray] at hwx;rw [<- hwx];clear hwx;obtain ⟨g2,hg2⟩:=exi (w.heap.size + 1);have Hg2:Hid (w.heap.size + 1=g2):=hii hg2.symm;rw [<- hg2] at r2 |-;clear hg2;obtain ⟨g1,hg1⟩:=exi (w.heap.size);have Hg1:Hid (w.heap.size=g1):=hii hg1.symm;rw [<- hg1] at r1 |-;clear hg1;obtain ⟨w1,rfl⟩:=exi wx;have HV1:=hup HV1 hb;have HV2:=hup HV2 hb;have hE:=hE.mono hb;have hbw:=bu hbw hb;clear hb;obtain ⟨c0,c1,c2,c3⟩:=r1.n4;go_wp2_with fail;go_fit (zbw _ r s w1 Hs (zac.mk' HV1 HV2) hE);rintro e w2 ⟨rfl,hb⟩;have HV1:=hup HV1 hb;have HV2:=hup HV2 hb;have hbw:=bu hbw hb;have r1:=r1.below hb;have r2:=r2.below hb;clear hb c0 c1 c2 c3
 by_cases hz:s=0
 ·subst hz;have r1':=r1.n4;obtain ⟨c0,c1,c2,c3⟩:=r1';have f:=r2.free;have Hn:Hid ((-r).num=r.num):=hii (by have:=(zcz _).1 Hs.out; rw [Rat.neg_num]; omega);obtain ⟨d0,d1,d2,d3⟩:=r2.n4;go_wp2;have hk:zaf (λ b => b=g2) w2 ((((w2.setCell ⟨g2,0,none⟩ (.bool J1)).setCell ⟨g2,1,none⟩ (.slice ao1 n1 Y1)).setCell ⟨g2,2,none⟩ (.bool J2)).setCell ⟨g2,3,none⟩ (.slice ao2 n2 Y2)) :=
   (((((zaf.refl w2:zaf (λ k => k=g2) w2 w2)).setCell (p:=⟨g2,0,none⟩) rfl _).setCell (p:=⟨g2,1,none⟩) rfl _).setCell (p:=⟨g2,2,none⟩) rfl _).setCell (p:=⟨g2,3,none⟩) rfl _
  have hno:=r2.noU (λ u hu => by simp at hu; rcases hu with rfl | rfl | rfl | rfl <;> intro z e <;> cases e);have q:=(((r2.set 0 (.bool J1)).set 1 (.slice ao1 n1 Y1)).set 2 (.bool J2)).set 3 (.slice ao2 n2 Y2);obtain ⟨q0,q1,q2,q3⟩:=Row.n4 q;refine bodyPost_ret (v:=.agg #[.bool J1,.slice ao1 n1 Y1,.bool J2,.slice ao2 n2 Y2]) (by simp [results,Tryz.results154,go_sem,q0,q1,q2,q3]) rfl ⟨⟨_,_,_,_,_,_,_,_,rfl,hii (by rw [Hn.out]; exact HV1.out.keptU hk hno),hii (by rw [Rat.neg_den]; exact HV2.out.keptU hk hno)⟩,hbw.trans (hk.below (λ b e => by have:=Hg2.out; omega) hbw.size)⟩
 ·have g9:(s != 0)=true:=by simpa using hz
  have hzr:r.num ≠ 0:=λ e => hz (by rw [<- Hs.out]; exact (zcz _).2 e)
  have Hzr:=hii hzr;clear hzr;obtain ⟨c0,c1,c2,c3⟩:=r1.n4;obtain ⟨d0,d1,d2,d3⟩:=r2.n4;have f1:=r1.free;have f2:=r2.free;go_upto_region 3 with fail;have hk:=(zaf.refl w2:zaf (λ k => k=g1) w2 w2).setCell (p:=⟨g1,0,none⟩) rfl (.bool (!J1));have hno:=r1.noU (λ u hu => by simp at hu; rcases hu with rfl | rfl | rfl | rfl <;> intro z e <;> cases e);have q:=r1.set 0 (.bool (!J1));have r2:=r2.mono hk (by have:=Hg1.out; have:=Hg2.out; omega);have HV1:=hii (HV1.out.keptU hk hno);have HV2:=hii (HV2.out.keptU hk hno);have hbw:=hbw.trans (hk.below (λ b e => by have:=Hg1.out; omega) hbw.size);clear c0 c1 c2 c3 d0 d1 d2 d3 r1 hno hk f1 f2;generalize w2.setCell ⟨g1,0,none⟩ (.bool (!J1))=w3 at *;obtain ⟨c0,c1,c2,c3⟩:=Row.n4 q;obtain ⟨d0,d1,d2,d3⟩:=r2.n4;have f:=r2.free;go_wp2;have hk:zaf (λ b => b=g2) w3 ((((w3.setCell ⟨g2,0,none⟩ (.bool (!J1))).setCell ⟨g2,1,none⟩ (.slice ao1 n1 Y1)).setCell ⟨g2,2,none⟩ (.bool J2)).setCell ⟨g2,3,none⟩ (.slice ao2 n2 Y2)) :=
   (((((zaf.refl w3:zaf (λ k => k=g2) w3 w3)).setCell (p:=⟨g2,0,none⟩) rfl _).setCell (p:=⟨g2,1,none⟩) rfl _).setCell (p:=⟨g2,2,none⟩) rfl _).setCell (p:=⟨g2,3,none⟩) rfl _
  have hno:=r2.noU (λ u hu => by simp at hu; rcases hu with rfl | rfl | rfl | rfl <;> intro z e <;> cases e);have q:=(((r2.set 0 (.bool (!J1))).set 1 (.slice ao1 n1 Y1)).set 2 (.bool J2)).set 3 (.slice ao2 n2 Y2);obtain ⟨q0,q1,q2,q3⟩:=Row.n4 q;refine bodyPost_ret (v:=.agg #[.bool (!J1),.slice ao1 n1 Y1,.bool J2,.slice ao2 n2 Y2]) (by simp [results,Tryz.results154,go_sem,q0,q1,q2,q3]) rfl ⟨⟨_,_,_,_,_,_,_,_,rfl,hii (by rw [Rat.neg_num]; exact (HV1.out.keptU hk hno).flip Hzr.out),hii (by rw [Rat.neg_den]; exact HV2.out.keptU hk hno)⟩,hbw.trans (hk.below (λ b e => by have:=Hg2.out; omega) hbw.size)⟩
theorem zgb (p:Value) (n1:Bool) (a1:Option Addr) (l1 c1:Nat) (n2:Bool) (a2:Option Addr) (l2 c2:Nat) (w:World) :
  Calls Tryz.prog 178 #[p,.agg #[.bool n1,.slice a1 l1 c1,.bool n2,.slice a2 l2 c2],.int .i64 0] w λ e w' => e=.returned (.agg #[.bool n1,.slice a1 l1 c1,.bool n2,.slice a2 l2 c2])/\BH w w':=by
 have hbw:=Below.refl w.heap.size w;go_enter func178,ntmps178;go_upto_region 1 with fail;obtain ⟨wx,hwx,r1,r2,hb⟩:=zaO w 32 32 [.bool n1,.slice a1 l1 c1,.bool n2,.slice a2 l2 c2] [.bool false,.slice none 0 0,.bool false,.slice none 0 0];simp only [List.toArray] at hwx;rw [<- hwx];clear hwx;obtain ⟨g2,hg2⟩:=exi (w.heap.size + 1);have Hg2:Hid (w.heap.size + 1=g2):=hii hg2.symm;rw [<- hg2] at r2 |-;clear hg2;obtain ⟨g1,hg1⟩:=exi (w.heap.size);rw [<- hg1] at r1 |-;clear hg1;obtain ⟨w1,rfl⟩:=exi wx;have hbw:=bu hbw hb;clear hb;obtain ⟨x0,x1,x2,x3⟩:=r1.n4;obtain ⟨d0,d1,d2,d3⟩:=r2.n4;have f:=r2.free;go_wp2;have q:=(((r2.set 0 (.bool n1)).set 1 (.slice a1 l1 c1)).set 2 (.bool n2)).set 3 (.slice a2 l2 c2);obtain ⟨q0,q1,q2,q3⟩:=Row.n4 q;have hk:zaf (λ b => b=g2) w1 ((((w1.setCell ⟨g2,0,none⟩ (.bool n1)).setCell ⟨g2,1,none⟩ (.slice a1 l1 c1)).setCell ⟨g2,2,none⟩ (.bool n2)).setCell ⟨g2,3,none⟩ (.slice a2 l2 c2)) :=
  (((((zaf.refl w1:zaf (λ k => k=g2) w1 w1)).setCell (p:=⟨g2,0,none⟩) rfl _).setCell (p:=⟨g2,1,none⟩) rfl _).setCell (p:=⟨g2,2,none⟩) rfl _).setCell (p:=⟨g2,3,none⟩) rfl _
 refine bodyPost_ret (v:=.agg #[.bool n1,.slice a1 l1 c1,.bool n2,.slice a2 l2 c2]) (by simp [results,Tryz.results178,go_sem,q0,q1,q2,q3]) rfl ⟨rfl,hbw.trans (hk.below (λ b e => by have:=Hg2.out; omega) hbw.size)⟩
end Go.Proofs.YtfgffkmddanjjaaGreatDoor
