/-
  load: a workload in its box.
-/
import Derived.Test.YtfgffkmddanjjaaGreatDoorLd
import Derived.Test.YtfgffkmddanjjaaGreatDoorLa
set_option linter.unusedVariables false
set_option linter.unusedSimpArgs false
set_option maxRecDepth 100000
set_option maxHeartbeats 25600000
namespace Go.Proofs.YtfgffkmddanjjaaGreatDoor
open _root_.Go.Proofs.Tryz
open Go.RowKit
theorem ziW {r:Rat} (h:0 < r):Rq.cmpQ r 0=1:=by
 unfold Rq.cmpQ;rw [if_neg (Rat.not_lt.2 (Rat.le_of_lt h)),if_pos h]
theorem zeK {a b:Rat} (h:b<=a):0<=Rq.cmpQ a b:=by
 unfold Rq.cmpQ;rw [if_neg (Rat.not_lt.2 h)]
 split <;> decide
theorem ziX {a b:Rat} (h:a<=b):Rq.cmpQ a b<=0:=by
 unfold Rq.cmpQ
 split
 ·decide
 ·rw [if_neg (Rat.not_lt.2 h)]; decide
theorem Row.n11 {w:World} {g:Nat} {E:TypeId} {a b c d e f x y z p q:Value} (h:Row w g E [a,b,c,d,e,f,x,y,z,p,q]):w.cell? ⟨g,0,none⟩=some a/\w.cell? ⟨g,1,none⟩=some b/\w.cell? ⟨g,2,none⟩=some c/\w.cell? ⟨g,3,none⟩=some d/\w.cell? ⟨g,4,none⟩=some e/\w.cell? ⟨g,5,none⟩=some f/\w.cell? ⟨g,6,none⟩=some x/\w.cell? ⟨g,7,none⟩=some y/\w.cell? ⟨g,8,none⟩=some z/\w.cell? ⟨g,9,none⟩=some p/\w.cell? ⟨g,10,none⟩=some q :=
 ⟨h.cell (k:=0) (by simp),h.cell (k:=1) (by simp),h.cell (k:=2) (by simp),h.cell (k:=3) (by simp),h.cell (k:=4) (by simp),h.cell (k:=5) (by simp),h.cell (k:=6) (by simp),h.cell (k:=7) (by simp),h.cell (k:=8) (by simp),h.cell (k:=9) (by simp),h.cell (k:=10) (by simp)⟩
def zdz (w:World) (g:Nat) (R S:List Nat) (f:Rat) (cap:List Rat):Prop:=∃ aR cR aS cS J1 ao1 n1 Y1 K1 ap1 m1 Z1 J2 ao2 n2 Y2 K2 ap2 m2 Z2 aC cC,Row w g 143 [.slice aR R.length cR,.slice aS S.length cS,.bool J1,.slice ao1 n1 Y1,.bool K1,.slice ap1 m1 Z1,.bool J2,.slice ao2 n2 Y2,.bool K2,.slice ap2 m2 Z2,.slice aC cap.length cC]/\zaM w aR R/\zaM w aS S/\zac w (qA J1 ao1 n1 Y1 K1 ap1 m1 Z1) f/\zac w (qA J2 ao2 n2 Y2 K2 ap2 m2 Z2) (1 - f)/\UQ w aC (cap.map some)
theorem zdz.mono {w w':World} {g:Nat} {R S:List Nat} {f:Rat} {cap:List Rat} (h:zdz w g R S f cap) (hb:BH w w'):zdz w' g R S f cap:=by
 obtain ⟨aR,cR,aS,cS,J1,ao1,n1,Y1,K1,ap1,m1,Z1,J2,ao2,n2,Y2,K2,ap2,m2,Z2,aC,cC,h1,h2,h3,h4,h5,h6⟩:=h;exact ⟨aR,cR,aS,cS,J1,ao1,n1,Y1,K1,ap1,m1,Z1,J2,ao2,n2,Y2,K2,ap2,m2,Z2,aC,cC,h1.below hb,h2.mono hb,h3.mono hb,h4.mono hb,h5.mono hb,h6.mono hb⟩
theorem WkM.crF {R S:List Nat} {f:Rat} {cap:List Rat} {m:Nat} (W:WkM R S f cap m):CrS f 0/\CrS f 1/\zl2 1 f/\∀ c∈cap,CrS c 0:=by
 have h1:Kb 1 f:=zca (D:=((12:Nat):Int)) (by decide) (by decide) W.wf (by decide);have h0:Kb 1 0:=zbr (Sx.wh_zero.mono (Nat.zero_le 1)) (by decide);have h2:Kb 1 1:=zbr zgn (by decide);exact ⟨h1.crS h0 (by decide),h1.crS h2 (by decide),h2.subS h1 (by decide),λ c hc => (zca (D:=((12:Nat):Int)) (by decide) (by decide) (W.wc c hc) (by decide):Kb 1 c).crS h0 (by decide)⟩
theorem FS.two {w:World} {b:Nat} {aR aS:Option Addr} {R S:List Nat} {cR cS:Nat} {E:TypeId} (r:Row w b E [.slice aR R.length cR,.slice aS S.length cS]) (hR:R.length<=cR) (hS:S.length<=cS) (uR:zaM w aR R) (uS:zaM w aS S):FS w (some ⟨b,0,none⟩) [R,S]:=λ i l hi => by
 match i,hi with
 | 0,hi => cases hi; exact ⟨b,0,aR,cR,rfl,r.cell (k:=0) (by simp),hR,uR⟩
 | 1,hi => cases hi; exact ⟨b,0,aS,cS,rfl,r.cell (k:=1) (by simp),hS,uS⟩
 | i + 2,hi => simp at hi
theorem zfG.notE {l:List Nat} {n:Nat} (h:zfG l n):zbA l=false:=by
 have h1:=h.len.1
 cases l with
 | nil => simp at h1
 | cons x l => exact decide_eq_false (h.ne x (by simp))
theorem WkM.setsE {R S:List Nat} {f:Rat} {cap:List Rat} {m:Nat} (W:WkM R S f cap m):setsE [R,S]=0:=by
 have hm:=W.hm;unfold Go.Proofs.YtfgffkmddanjjaaGreatDoor.setsE zco zco zco;simp [W.fR.err (by omega),W.fS.err (by omega),W.fR.notE,W.fS.notE]
theorem zmK (v:Value) (r:Rat) (w:World) (h:zac w v r) (hE:Env w) :
  Calls Tryz.prog 102 #[v] w λ e w' => e=.returned (.bool false)/\BH w w':=by
 have hbw:=Below.refl w.heap.size w;obtain ⟨J1,ao1,n1,Y1,K1,ap1,m1,Z1,rfl⟩:=h.parts;go_enter func102,ntmps102;go_upto_region 1 with fail;obtain ⟨w1,g3,hw9,hg9,hb,r3⟩:=bxr w [.bool J1,.slice ao1 n1 Y1,.bool K1,.slice ap1 m1 Z1] 32;rw [<- hw9,<- hg9];have Hg3:Hid (w.heap.size<=g3):=hii (by have:=hbw.size; omega);clear hw9 hg9;have h:=h.mono hb;have hE:=hE.mono hb;have hbw:=bu hbw hb;clear hb;obtain ⟨c0,c1,c2,c3⟩:=r3.n4;go_wp2_with fail;go_fit (zau _ r w1 h hE);rintro e w2 ⟨rfl,hb⟩;have hbw:=bu hbw hb;clear hb;go_wp2;go_ret;exact ⟨rfl,hbw⟩
theorem zmJ (v:Value) (r:Rat) (g:Nat) {J2:Bool} {ao2:Option Addr} {n2 Y2:Nat} {K2:Bool} {ap2:Option Addr} {m2 Z2:Nat} (w:World) (h:zac w v r) (hr:Hid (0 < r)) (hC:Hid (CrS r 0)) (rz:Row w g 32 [.bool J2,.slice ao2 n2 Y2,.bool K2,.slice ap2 m2 Z2]) (hz:zac w (qA J2 ao2 n2 Y2 K2 ap2 m2 Z2) 0) (hE:Env w) :
  Calls Tryz.prog 103 #[v,.pointer (some ⟨g,0,none⟩)] w λ e w' => e=.returned (.bool false)/\BH w w':=by
 have hbw:=Below.refl w.heap.size w;obtain ⟨J1,ao1,n1,Y1,K1,ap1,m1,Z1,rfl⟩:=h.parts;go_enter func103,ntmps103;go_upto_region 1 with fail;obtain ⟨w1,g3,hw9,hg9,hb,r3⟩:=bxr w [.bool J1,.slice ao1 n1 Y1,.bool K1,.slice ap1 m1 Z1] 32;rw [<- hw9,<- hg9];have Hg3:Hid (w.heap.size<=g3):=hii (by have:=hbw.size; omega);clear hw9 hg9;have h:=h.mono hb;have hz:=hz.mono hb;have hE:=hE.mono hb;have rz:=rz.below hb;have hbw:=bu hbw hb;clear hb;obtain ⟨c0,c1,c2,c3⟩:=r3.n4;obtain ⟨d0,d1,d2,d3⟩:=rz.n4;have HC:=zaT _ _ r 0 w1 h hz hC hE;rw [ziW hr.out] at HC;go_wp2_with fail;(with_reducible refine HC.mono ?_);rintro e w2 ⟨rfl,hb⟩;have hbw:=bu hbw hb;clear hb HC;go_wp2;go_ret;exact ⟨rfl,hbw⟩
theorem zcS (R S:List Nat) (f:Rat) (cap:List Rat) (m:Nat) (HW:Hid (WkM R S f cap m)) (aR aS aC:Option Addr) (cR cS cC:Nat) (vf:Value) (w:World) (hcR:R.length<=cR) (hcS:S.length<=cS) (uR:zaM w aR R) (uS:zaM w aS S) (hf:zac w vf f) (uC:UQ w aC (cap.map some)) (hE:Env w) :
  Calls Tryz.prog 56 #[.slice aR R.length cR,.slice aS S.length cS,vf,.slice aC cap.length cC] w λ e w' => (∃ g,e=.returned (.tuple #[.pointer (some ⟨g,0,none⟩),.int .i64 0])/\w.heap.size<=g/\zdz w' g R S f cap)/\BH w w':=by
 have hbw:=Below.refl w.heap.size w;obtain ⟨J1,ao1,n1,Y1,K1,ap1,m1,Z1,rfl⟩:=hf.parts;have hm:=HW.out.hm;have hR4:=HW.out.fR.len;have hS4:=HW.out.fS.len;obtain ⟨HC1,HC2,HC3,HC4⟩:=HW.out.crF;have HC1:=hii HC1;have HC2:=hii HC2;have HC3:=hii HC3;have HC4:=hii HC4;have HR16:=hii (HW.out.fR.s16 (by omega));have HS16:=hii (HW.out.fS.s16 (by omega));obtain ⟨cn,hN⟩:∃ cn,cap.length=cn:=⟨_,rfl⟩;have hNm:cn=m:=by rw [<- hN,HW.out.lc]
 have hN1:1<=cn/\cn<=5:=by omega
 have HLc:Hid ((cap.map (some:Rat->Qo)).length=cn):=hii (by rw [List.length_map,hN]);obtain ⟨u,hu⟩:∃ u,zdJ R ||| zdJ S=u:=⟨_,rfl⟩
 have hu2:u < 2 ^ cn:=by rw [<- hu,hNm]; exact Nat.or_lt_two_pow HW.out.fR.uni HW.out.fS.uni
 have hor:=zn1 (zdJ R) (zdJ S) (zfJ HR16.out) (zfJ HS16.out);rw [hu] at hor;have hsh:(u:Int) / 2 ^ cn=0:=by
  have e:(u:Int) / 2 ^ cn=((u / 2 ^ cn:Nat):Int):=by push_cast; rfl
  rw [e,Nat.div_eq_of_lt hu2]; rfl
 have HSF:=HW.out.setsE;have Hhor:=hii hor;have Hhsh:=hii hsh;have Hhc0:Hid (0<=Rq.cmpQ f 0):=hii (zeK HW.out.f0);have Hhc1:Hid (Rq.cmpQ f 1<=0):=hii (ziX HW.out.f1);have Hpc:Hid (∀ c∈cap,0 < c):=hii HW.out.pc;have HNN:=hii hN;clear hm hNm hu hu2 hor hsh;rw [hN];clear hN;go_enter func56,ntmps56;go_upto_region 1 with fail;obtain ⟨w1,g6,hw9,hg9,hb,r6⟩:=bxr w [.bool J1,.slice ao1 n1 Y1,.bool K1,.slice ap1 m1 Z1] 32;rw [<- hw9,<- hg9];have Hg6:Hid (w.heap.size<=g6):=hii (by have:=hbw.size; omega);clear hw9 hg9;have hf:=hf.mono hb;have uR:=uR.mono hb;have uS:=uS.mono hb;have uC:=uC.mono hb;have hE:=hE.mono hb;have hbw:=bu hbw hb;clear hb;go_wp2_with fail;obtain ⟨w2,gs,hw9,hg9,hb,rs⟩:=bxr w1 [.slice aR R.length cR,.slice aS S.length cS] 27;rw [<- hw9,<- hg9];have Hgs:Hid (w.heap.size<=gs):=hii (by have:=hbw.size; omega);clear hw9 hg9;have hf:=hf.mono hb;have uR:=uR.mono hb;have uS:=uS.mono hb;have uC:=uC.mono hb;have hE:=hE.mono hb;have r6:=r6.below hb;have hbw:=bu hbw hb;clear hb;have HSs:=zh8 [R,S] (some ⟨gs,0,none⟩) 2 w2 (by simp) (FS.two rs hcR hcS uR uS) (hii (by
  intro l hl;simp at hl;rcases hl with rfl | rfl
  ·exact ⟨by omega,HR16.out⟩
  ·exact ⟨by omega,HS16.out⟩))
 rw [HSF,show [R,S].length=2 from rfl] at HSs;(with_reducible refine HSs.mono ?_);rintro e w3 ⟨rfl,hb⟩;have hf:=hf.mono hb;have uR:=uR.mono hb;have uS:=uS.mono hb;have uC:=uC.mono hb;have hE:=hE.mono hb;have r6:=r6.below hb;have hbw:=bu hbw hb;clear hb;clear HSs HSF rs;obtain ⟨c0,c1,c2,c3⟩:=r6.n4;go_wp2_with fail;go_fit (zau _ f w3 hf hE);rintro e w4 ⟨rfl,hb⟩;have hf:=hf.mono hb;have uR:=uR.mono hb;have uS:=uS.mono hb;have uC:=uC.mono hb;have hE:=hE.mono hb;have r6:=r6.below hb;have hbw:=bu hbw hb;clear hb;clear c0 c1 c2 c3;have eg1:∀ args w,(callFunc 102 args).run Tryz.prog w=.ok (.enter 102 args) w:=enters_of func102 (by kernel_rfl) rfl;have HK1:=zba 102 #[] (λ _ => false) eg1 (cap.map some) aC cC w4 (by rw [HLc.out]; omega) uC hE (λ o v W ho hv hEW hb => by
  obtain ⟨r,_,rfl⟩:=List.mem_map.1 ho;exact zmK v r W hv hEW)
 rw [HLc.out,show ((cap.map (some:Rat->Qo)).any λ _ => false)=false from List.any_eq_false.2 λ _ _ => by simp] at HK1;go_wp2_with fail;(with_reducible refine HK1.mono ?_);rintro e w5 ⟨rfl,hb⟩;have hf:=hf.mono hb;have uR:=uR.mono hb;have uS:=uS.mono hb;have uC:=uC.mono hb;have hE:=hE.mono hb;have r6:=r6.below hb;have hbw:=bu hbw hb;clear hb;clear HK1 eg1;have hd1:decide ((cn:Int) < 1)=false:=decide_eq_false (by omega);have hd2:decide ((12:Int) < (cn:Int))=false:=decide_eq_false (by omega);go_wp2_with fail;go_fit (zaF 0 (by decide) (by decide) w5 hE);rintro e w6 ⟨hz,hb⟩;have hf:=hf.mono hb;have uR:=uR.mono hb;have uS:=uS.mono hb;have uC:=uC.mono hb;have hE:=hE.mono hb;have r6:=r6.below hb;have hbw:=bu hbw hb;clear hb;clear hd1 hd2;obtain ⟨J2,ao2,n2,Y2,K2,ap2,m2,Z2,rfl,hZ⟩:=hz.rat;have hZ:zac w6 (qA J2 ao2 n2 Y2 K2 ap2 m2 Z2) 0:=hZ;clear hz;go_upto_region 10 with fail;obtain ⟨w7,gz,hw9,hg9,hb,rz⟩:=bxr w6 [.bool J2,.slice ao2 n2 Y2,.bool K2,.slice ap2 m2 Z2] 32;rw [<- hw9,<- hg9];have Hgz:Hid (w.heap.size<=gz):=hii (by have:=hbw.size; omega);clear hw9 hg9;have hf:=hf.mono hb;have hZ:=hZ.mono hb;have uR:=uR.mono hb;have uS:=uS.mono hb;have uC:=uC.mono hb;have hE:=hE.mono hb;have r6:=r6.below hb;have hbw:=bu hbw hb;clear hb;have eg2:∀ args w,(callFunc 103 args).run Tryz.prog w=.ok (.enter 103 args) w:=enters_of func103 (by kernel_rfl) rfl;have HK2:∀ W,BH w7 W->Calls Tryz.prog 101 #[.slice aC cn cC,.func (.func 103) #[] #[.pointer (some ⟨gz,0,none⟩)]] W λ e w' => e=.returned (.bool false)/\BH W w':=λ W hW => by
  have h:=zba 103 #[.pointer (some ⟨gz,0,none⟩)] (λ _ => false) eg2 (cap.map some) aC cC W (by rw [HLc.out]; omega) (uC.mono hW) (hE.mono hW) (λ o v W' ho hv hEW hb => by
   obtain ⟨r,hr,rfl⟩:=List.mem_map.1 ho;exact zmJ v r gz W' hv (hii (Hpc.out r hr)) (hii (HC4.out r hr)) (rz.below (bu hW hb)) (hZ.mono (bu hW hb)) hEW)
  rw [HLc.out,show ((cap.map (some:Rat->Qo)).any λ _ => false)=false from List.any_eq_false.2 λ _ _ => by simp] at h;exact h
 have HK2:=hii HK2;have HS1:Hid (∀ W,BH w7 W->Calls Tryz.prog 37 #[.slice aR R.length cR] W λ e w' => e=.returned (.int .u16 (zdJ R:Nat))/\BH W w'):=hii λ W hW => zcW R aR cR W (by omega) (uR.mono hW) HR16
 have HS2:Hid (∀ W,BH w7 W->Calls Tryz.prog 37 #[.slice aS S.length cS] W λ e w' => e=.returned (.int .u16 (zdJ S:Nat))/\BH W w'):=hii λ W hW => zcW S aS cS W (by omega) (uS.mono hW) HS16
 have HP1:Hid (∀ v1 v2 W,zac W v1 f->zac W v2 0->Env W->Calls Tryz.prog 70 #[v1,v2] W λ e w' => e=.returned (.int .i64 (Rq.cmpQ f 0))/\BH W w'):=hii λ v1 v2 W h1 h2 h3 => zaT v1 v2 f 0 W h1 h2 HC1 h3
 have HP2:Hid (∀ v1 v2 W,zac W v1 f->zac W v2 1->Env W->Calls Tryz.prog 70 #[v1,v2] W λ e w' => e=.returned (.int .i64 (Rq.cmpQ f 1))/\BH W w'):=hii λ v1 v2 W h1 h2 h3 => zaT v1 v2 f 1 W h1 h2 HC2 h3
 obtain ⟨x0,hx0⟩:∃ x,Rq.cmpQ f 0=x:=⟨_,rfl⟩;obtain ⟨x1,hx1⟩:∃ x,Rq.cmpQ f 1=x:=⟨_,rfl⟩;obtain ⟨a,ha⟩:∃ x,zdJ R=x:=⟨_,rfl⟩;obtain ⟨b,hb'⟩:∃ x,zdJ S=x:=⟨_,rfl⟩;rw [hx0] at HP1 Hhc0;rw [hx1] at HP2 Hhc1;rw [ha] at HS1 Hhor;rw [hb'] at HS2 Hhor;have hd1:decide (x0 < 0)=false:=decide_eq_false (by have:=Hhc0.out; omega);have hd2:decide (0 < x1)=false:=decide_eq_false (by have:=Hhc1.out; omega);have hor:=Hhor.out;have hsh:=Hhsh.out;have hN12:((cn:Int) < 64):=by omega
 clear hx0 hx1 ha hb' eg2;refine zae (wx:=w7) [vf (.agg #[.bool J1,.slice ao1 n1 Y1,.bool K1,.slice ap1 m1 Z1]),vf (.agg #[.bool J2,.slice ao2 n2 Y2,.bool K2,.slice ap2 m2 Z2]),vf (.int .i64 x0),vf (.bool false),vf (.bool false),vf (.agg #[.bool J1,.slice ao1 n1 Y1,.bool K1,.slice ap1 m1 Z1]),(λ W v => zac W v 1),vf (.int .i64 x1),vf (.bool false),vf (.bool false),vf (.bool false),vf (.slice aR R.length cR),vf (.int .u16 (a:Nat)),vf (.slice aS S.length cS),vf (.int .u16 (b:Nat)),vf (.int .u16 (u:Nat)),vf (.int .i64 (cn:Nat)),vf (.int .u16 0),vf (.bool false),vf (.bool false),vf (.bool false),vf (.slice aC cn cC),vf (.func (.func 103) #[] #[.pointer (some ⟨gz,0,none⟩)]),vf (.bool false),vf (.bool false)] [38,39,40,41,42,43,44,45,46,47,48,49,50,51,52,53,54,55,56,57,58,59,60,61,62] (by kernel_rfl) (by kernel_rfl) (by kernel_rfl) (of_decide_eq_true (by kernel_rfl)) br ⟨sV _,sV _,sV _,sV _,sV _,sV _,(λ _ _ _ h hb => h.mono hb),sV _,sV _,sV _,sV _,sV _,sV _,sV _,sV _,sV _,sV _,sV _,sV _,sV _,sV _,sV _,sV _,sV _,sV _,trivial⟩ ⟨?s0,?s1,?s2,?s3,?s4,?s5,?s6,?s7,?s8,?s9,?s10,?s11,?s12,?s13,?s14,?s15,?s16,?s17,?s18,?s19,?s20,?s21,?s22,?s23,?s24,trivial⟩ ?he
 case' s0 | s1 | s2 | s3 | s4 | s5 | s6 | s7 | s8 | s9 | s10 | s11 | s12 | s13 | s14 | s15 | s16 | s17 | s18 | s19 | s20 | s21 | s22 | s23 | s24 =>
  rintro T W hb hA K hK
 case' s0 =>
  simp only [sA] at hK |-;have HK:=hii hK;clear hK hA;obtain ⟨c0,c1,c2,c3⟩:=(r6.below hb).n4
 case' s1 =>
  simp only [sA] at hK |-;have HK:=hii hK;clear hK hA;obtain ⟨d0,d1,d2,d3⟩:=(rz.below hb).n4
 case' s5 =>
  have e4:T 42=_:=hA.1;simp only [sA,e4] at hK |-;have HK:=hii hK;clear hK hA;obtain ⟨c0,c1,c2,c3⟩:=(r6.below hb).n4
 case' s3 =>
  have e2:T 40=_:=hA.1;simp only [sA,e2] at hK |-
 case' s4 =>
  have e3:T 41=_:=hA.1;simp only [sA,e3] at hK |-
 case' s8 =>
  have e7:T 45=_:=hA.1;have e4:T 42=_:=hA.2.1;simp only [sA,e7,e4] at hK |-
 case' s9 =>
  have e4:T 42=_:=hA.1;have e8:T 46=_:=hA.2.1;simp only [sA,e4,e8] at hK |-
 case' s10 =>
  have e9:T 47=_:=hA.1;simp only [sA,e9] at hK |-
 case' s11 | s13 | s16 =>
  have e10:T 48=_:=hA.1;simp only [sA,e10] at hK |-
 case' s15 =>
  have e12:T 50=_:=hA.1;have e14:T 52=_:=hA.2.1;have e10:T 48=_:=hA.2.2.1;simp only [sA,e12,e14,e10] at hK |-
 case' s17 =>
  have e15:T 53=_:=hA.1;have e16:T 54=_:=hA.2.1;have e10:T 48=_:=hA.2.2.1;simp only [sA,e15,e16,e10] at hK |-
 case' s18 =>
  have e17:T 55=_:=hA.1;have e10:T 48=_:=hA.2.1;simp only [sA,e17,e10] at hK |-
 case' s19 =>
  have e10:T 48=_:=hA.1;have e18:T 56=_:=hA.2.1;simp only [sA,e10,e18] at hK |-
 case' s20 =>
  have e19:T 57=_:=hA.1;simp only [sA,e19] at hK |-
 case' s21 | s22 =>
  have e20:T 58=_:=hA.1;simp only [sA,e20] at hK |-
 case' s24 =>
  have e20:T 58=_:=hA.1;have e23:T 61=_:=hA.2.1;simp only [sA,e20,e23] at hK |-
 case s0 | s1 | s5 =>
  refine wO rfl (by rfl) ?_;go_simp;exact HK.out _ _ br (rfl)
 case s3 | s4 | s8 | s9 | s10 | s11 | s13 | s15 | s16 | s17 | s18 | s19 | s20 | s21 | s22 | s24 =>
  have HK:=hii hK;clear hK hA;refine wO rfl (by rfl) ?_;go_simp;exact HK.out _ _ br (rfl)
 case s2 =>
  have e0:T 38=_:=hA.1;have e1:T 39=_:=hA.2.1;simp only [sA,e0,e1] at hK |-;have HK:=hii hK;clear hK hA;refine wO rfl (by rfl) ?_;go_simp;go_fit (HP1.out _ _ W (hf.mono hb) (hZ.mono hb) (hE.mono hb));rintro e w1 ⟨rfl,hb1⟩
  try dsimp only
  exact HK.out _ _ hb1 (rfl)
 case s6 =>
  have e4:T 42=_:=hA.1;simp only [sA,e4] at hK |-;have HK:=hii hK;clear hK hA;refine wO rfl (by rfl) ?_;go_simp;go_fit (zaF 1 (by decide) (by decide) W (hE.mono hb));rintro e w1 ⟨hz,hb1⟩;obtain ⟨J5,ao5,n5,Y5,K5,ap5,m5,Z5,rfl,hV5⟩:=hz.rat
  try dsimp only
  exact HK.out _ _ hb1 (hV5)
 case s7 =>
  have e5:T 43=_:=hA.1;have r6:(_:World->Value->Prop) W (T 44):=hA.2.1;have e4:T 42=_:=hA.2.2.2.1;simp only [sA,e5,e4] at hK |-;have HK:=hii hK;clear hK hA;have r6:zac W _ 1:=r6;obtain ⟨J6,ao6,n6,Y6,K6,ap6,m6,Z6,e6⟩:=r6.parts;rw [e6] at r6;simp only [e6] at HK |-;refine wO rfl (by rfl) ?_;go_simp;go_fit (HP2.out _ _ W (hf.mono hb) r6 (hE.mono hb));rintro e w1 ⟨rfl,hb1⟩
  try dsimp only
  exact HK.out _ _ hb1 (rfl)
 case s12 =>
  have e11:T 49=_:=hA.1;have e10:T 48=_:=hA.2.1;simp only [sA,e11,e10] at hK |-;have HK:=hii hK;clear hK hA;refine wO rfl (by rfl) ?_;go_simp;go_fit (HS1.out W hb);rintro e w1 ⟨rfl,hb1⟩
  try dsimp only
  exact HK.out _ _ hb1 (rfl)
 case s14 =>
  have e13:T 51=_:=hA.1;have e10:T 48=_:=hA.2.2.1;simp only [sA,e13,e10] at hK |-;have HK:=hii hK;clear hK hA;refine wO rfl (by rfl) ?_;go_simp;go_fit (HS2.out W hb);rintro e w1 ⟨rfl,hb1⟩
  try dsimp only
  exact HK.out _ _ hb1 (rfl)
 case s23 =>
  have e21:T 59=_:=hA.1;have e22:T 60=_:=hA.2.1;have e20:T 58=_:=hA.2.2.1;simp only [sA,e21,e22,e20] at hK |-;have HK:=hii hK;clear hK hA;refine wO rfl (by rfl) ?_;go_simp;go_fit (HK2.out W hb);rintro e w1 ⟨rfl,hb1⟩
  try dsimp only
  exact HK.out _ _ hb1 (rfl)
 case he =>
  rintro T W hb hA;have f24:T 62=.bool false:=hA.at 24 (by decide);simp only [sA,f24];have hf:=hf.mono hb;have uR:=uR.mono hb;have uS:=uS.mono hb;have uC:=uC.mono hb;have hE:=hE.mono hb;have r6:=r6.below hb;have hbw:=bu hbw hb;clear hb;clear hA f24 HP1 HP2 HS1 HS2 HK2 rz hd1 hd2 hor hsh;obtain ⟨w8,rfl⟩:=exi W;go_upto_region 12 with fail;refine zaq (wx:=w8) (λ _ => False) [(λ G X W => ((FQ 1):(Nat->Prop)->World->Value->Prop) G W (X 0)),(λ _ X _ => X 1=.agg #[.bool J1,.slice ao1 n1 Y1,.bool K1,.slice ap1 m1 Z1]),(λ G X W => ((λ _ W v => ∃ a,v=.tuple #[a,.int .i64 0]/\zac W a (1 - f)):(Nat->Prop)->World->Value->Prop) G W (X 2)),(λ G X W => ((λ _ W v => ∃ a,v=.tuple #[a,.int .i64 0]/\zac W a (1 - f)):(Nat->Prop)->World->Value->Prop) G W (X 3)),(λ G X W => ((FQ (1 - f)):(Nat->Prop)->World->Value->Prop) G W (X 4)),(λ _ X _ => X 5=.int .i64 0),(λ _ _ _ => True),(λ _ _ _ => True),(λ _ X _ => X 8=.int .i64 0)] [some 64,some 65,some 66,some 63,some 67,some 68,some 13,none,some 14] [none,none,none,none,none,none,some ⟨7,4,32,[.bool false,.slice none 0 0,.bool false,.slice none 0 0]⟩,none,none] [64,65,66,63,67,68,13,14] (by kernel_rfl) (by kernel_rfl) (by kernel_rfl) (by kernel_rfl) (of_decide_eq_true (by kernel_rfl)) (by kernel_rfl) ⟨(by intro u hu k z e; subst e; simp at hu),trivial⟩ (λ b h => h) br ⟨za7 _,zab _ _ _,(zaw (F:=λ _ W v => ∃ a,v=.tuple #[a,.int .i64 0]/\zac W a (1 - f)) λ G G' W W' v ⟨a,e,h⟩ hk hn hG => ⟨a,e,h.kept hk hn⟩),(zaw (F:=λ _ W v => ∃ a,v=.tuple #[a,.int .i64 0]/\zac W a (1 - f)) λ G G' W W' v ⟨a,e,h⟩ hk hn hG => ⟨a,e,h.kept hk hn⟩),za7 _,zab _ _ _,zao _,zao _,zab _ _ _,trivial⟩ ⟨⟨λ _ _ _ => trivial,λ _ _ _ => trivial⟩,trivial⟩ ⟨?s0,?s1,?s2,?s3,?s4,?s5,?s6,?s7,?s8,trivial⟩ ⟨?b6,trivial⟩ ?he
  case' s0 | s1 | s2 | s3 | s4 | s5 =>
   rintro - G T W hb hHG hGW hGo hNG hA K hK
  case' s1 =>
   obtain ⟨c0,c1,c2,c3⟩:=(r6.below hb).n4;simp only [sA] at hK |-
  case' s5 =>
   have r3:((λ _ W v => ∃ a,v=.tuple #[a,.int .i64 0]/\zac W a (1 - f)):(Nat->Prop)->World->Value->Prop) G W (T 63):=hA.1;obtain ⟨a6,e3,h6⟩:=r3;simp only [sA,e3] at hK |-
  case s1 | s5 =>
   have HK:=hii hK;clear hK hA;refine wO rfl (by rfl) ?_;go_simp;exact HK.out _ _ br λ X hX _ => hX
  case s0 =>
   simp only [sA] at hK |-;have HK:=hii hK;clear hK hA;refine wO rfl (by rfl) ?_;go_simp;go_fit (zaF 1 (by decide) (by decide) W (hE.mono hb));rintro e w1 ⟨hz,hb1⟩;obtain ⟨J5,ao5,n5,Y5,K5,ap5,m5,Z5,rfl,hV5⟩:=hz.rat;have hV5:zac w1 (qA J5 ao5 n5 Y5 K5 ap5 m5 Z5) 1:=hV5
   try dsimp only
   exact HK.out _ _ (hb1) λ X hX _ => by
    show ((FQ 1):(Nat->Prop)->World->Value->Prop) G _ (X 0)
    rw [hX];exact hV5
  case s2 =>
   have r0:((FQ 1):(Nat->Prop)->World->Value->Prop) G W (T 64):=hA.1;have e1:T 65=_:=hA.2.1;have r0:zac W _ 1:=r0;obtain ⟨J6,ao6,n6,Y6,K6,ap6,m6,Z6,e0⟩:=r0.parts;rw [e0] at r0;simp only [sA,e1,e0] at hK |-;have HK:=hii hK;clear hK hA;refine wO rfl (by rfl) ?_;go_simp;go_fit (zm3 _ _ 1 f W r0 (hf.mono hb) HC3 (hE.mono hb));rintro e w1 ⟨hz,hb1⟩;obtain ⟨J7,ao7,n7,Y7,K7,ap7,m7,Z7,rfl,hV7⟩:=hz.rat
   try dsimp only
   exact HK.out _ _ (hb1) λ X hX _ => by
    show ((λ _ W v => ∃ a,v=.tuple #[a,.int .i64 0]/\zac W a (1 - f)):(Nat->Prop)->World->Value->Prop) G _ (X 2)
    rw [hX];exact ⟨_,rfl,hV7⟩
  case s3 =>
   have r2:((λ _ W v => ∃ a,v=.tuple #[a,.int .i64 0]/\zac W a (1 - f)):(Nat->Prop)->World->Value->Prop) G W (T 66):=hA.1;obtain ⟨a6,e2,h6⟩:=r2;simp only [sA,e2] at hK |-;have HK:=hii hK;clear hK hA;refine wO rfl (by rfl) ?_;go_simp;exact HK.out _ _ br λ X hX _ => by
    show ((λ _ W v => ∃ a,v=.tuple #[a,.int .i64 0]/\zac W a (1 - f)):(Nat->Prop)->World->Value->Prop) G _ (X 3)
    rw [hX];exact ⟨_,rfl,h6⟩
  case s4 =>
   have r3:((λ _ W v => ∃ a,v=.tuple #[a,.int .i64 0]/\zac W a (1 - f)):(Nat->Prop)->World->Value->Prop) G W (T 63):=hA.1;obtain ⟨a6,e3,h6⟩:=r3;simp only [sA,e3] at hK |-;have HK:=hii hK;clear hK hA;refine wO rfl (by rfl) ?_;go_simp;exact HK.out _ _ br λ X hX _ => by
    show ((FQ (1 - f)):(Nat->Prop)->World->Value->Prop) G _ (X 4)
    rw [hX];exact h6
  case s6 => exact λ h => absurd h (by decide)
  case s7 => exact λ h => absurd h (by decide)
  case s8 =>
   rintro - G T W hb hHG hGW hGo hNG hA K hK;have e5:T 68=_:=hA.1;simp only [sA,e5] at hK |-;have HK:=hii hK;clear hK hA;refine wO rfl (by rfl) ?_;go_simp;exact HK.out _ _ br λ X hX _ => hX
  case b6 =>
   refine ⟨?_,?_⟩
   ·rintro o ho T W K hK;obtain rfl:=Option.some.inj ho;simp only [sA] at hK |-;have HK:=hii hK;clear hK ho;refine wO rfl (by rfl) ?_;go_simp;exact HK.out
   ·rintro o ho G T W nb hA hp hrow K hK;obtain rfl:=Option.some.inj ho;have ep:T 13=.pointer (some ⟨nb,0,none⟩):=hp;have r4:((FQ (1 - f)):(Nat->Prop)->World->Value->Prop) G W (T 67):=hA.2.1;have r4:zac W _ (1 - f):=r4;obtain ⟨J8,ao8,n8,Y8,K8,ap8,m8,Z8,e4⟩:=r4.parts;have hK:=hK [.bool J8,.slice ao8 n8 Y8,.bool K8,.slice ap8 m8 Z8] (.inl e4) rfl (by intro u hu k z e; subst e; simp at hu);simp only [sA,ep,e4] at hK |-;have HK:=hii hK;clear hK hA ho;have q0:=hrow.cell (k:=0) (by simp);have f0:=hrow.free 0;have q1:=hrow.cell (k:=1) (by simp);have f1:=hrow.free 1;have q2:=hrow.cell (k:=2) (by simp);have f2:=hrow.free 2;have q3:=hrow.cell (k:=3) (by simp);have f3:=hrow.free 3;simp only [List.getElem_cons_zero,List.getElem_cons_succ] at q0 q1 q2 q3;refine wO rfl (by rfl) ?_;go_simp;exact HK.out
  case he =>
   rintro GG N T W hb hHG hGW hGo hbox hNG hne hA;have fv:((FQ (1 - f)):(Nat->Prop)->World->Value->Prop) GG W (T 67):=hA.at 4 (by decide);have f8:T 14=.int .i64 0:=hA.at 8 (by decide);obtain ⟨ep,_,hge,vs,hsto,hrow⟩:=hbox 6 _ rfl;have ep:T 13=.pointer (some ⟨N 6,0,none⟩):=ep;have fv:zac W _ (1 - f):=fv;obtain ⟨J5,ao5,n5,Y5,K5,ap5,m5,Z5,e5⟩:=fv.parts;obtain rfl:=hsto.four e5;rw [e5] at fv;simp only [sA,ep,f8];have hf:=hf.mono hb;have uR:=uR.mono hb;have uS:=uS.mono hb;have uC:=uC.mono hb;have r6:=r6.below hb;have hbw:=bu hbw hb;clear hb;clear hA hbox hNG hne hHG hGW hGo ep f8 hsto hge e5;obtain ⟨c0,c1,c2,c3⟩:=r6.n4;obtain ⟨d0,d1,d2,d3⟩:=Row.n4 hrow;obtain ⟨w9,rfl⟩:=exi W;go_wp2;go_ret2;have hq:=bA w9 (.cells #[.slice aR R.length cR,.slice aS S.length cS,.bool J1,.slice ao1 n1 Y1,.bool K1,.slice ap1 m1 Z1,.bool J5,.slice ao5 n5 Y5,.bool K5,.slice ap5 m5 Z5,.slice aC cn cC] 143);refine ⟨⟨w9.heap.size,rfl,hbw.size,aR,cR,aS,cS,J1,ao1,n1,Y1,K1,ap1,m1,Z1,J5,ao5,n5,Y5,K5,ap5,m5,Z5,aC,cC,?_,uR.mono hq,uS.mono hq,hf.mono hq,fv.mono hq,uC.mono hq⟩,bu hbw hq⟩;rw [HNN.out];exact heap_alloc_new _ _
end Go.Proofs.YtfgffkmddanjjaaGreatDoor
