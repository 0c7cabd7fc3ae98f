/-
  Optimal and Gap, in the program and in the reference.
-/
import Derived.Test.YtaedmaifkfhpfaaGreatDoorD5
set_option linter.unusedVariables false
set_option linter.unusedSimpArgs false
set_option maxRecDepth 100000
set_option maxHeartbeats 25600000
namespace Go.Proofs.YtaedmaifkfhpfaaGreatDoor
open Go.RowKit
theorem ddot_at {l m:List Qo} {aa ab:Option Addr} {ca cb:Nat} {w:World} (hl:Hid (l.length=m.length)) (bl:Hid (badQ l=false)) (bm:Hid (badQ m=false)) (hm:l.length≤1000000000) (ul:UQ w aa l) (um:UQ w ab m) (hE:Env w) :
  Calls Tryz.prog 32 #[.slice aa l.length ca,.slice ab m.length cb] w fun e w' => DotP (dotO (valsQ l) (valsQ m)) w' e∧Below w.heap.size w w':=by
 have:=Dot_any (valsQ l) (valsQ m) _ aa ab ca cb w (by rw [vals_length]; exact hm) (by rw [vals_length,vals_length]; exact hl.out) (ul.vals bl.out) (um.vals bm.out) (hii (dotO_spec (valsQ l) (valsQ m))) hE;rw [vals_length,vals_length] at this;exact this
theorem dsum_at {l m:List Qo} {b:Rat} {k:Nat} {c:Int} {aa ab:Option Addr} {ca cb:Nat} {vb:Value} {w:World} (hl:Hid (l.length=m.length)) (bl:Hid (badQ l=false)) (bm:Hid (badQ m=false)) (hm:l.length≤1000000000) (ul:UQ w aa l) (um:UQ w ab m) (hv:RatV w vb b) (hA:Hid (agn (valsQ l) (valsQ m) b=(k,c))) (hE:Env w) :
  Calls Tryz.prog 37 #[.slice aa l.length ca,.slice ab m.length cb,vb] w fun e w' => e=.returned (.tuple #[.int .i64 c,.int .i64 k])∧Below w.heap.size w w':=by
 have:=dsum_any (valsQ l) (valsQ m) b k c aa ab ca cb vb w (by rw [vals_length]; exact hm) (by rw [vals_length,vals_length]; exact hl.out) (ul.vals bl.out) (um.vals bm.out) hv hA hE;rw [vals_length,vals_length] at this;exact this
def ResE (r:Nat × Rat) (w':World) (e:Ending):Prop:=if r.1=0 then GotQ w' r.2 e else NoQ r.1 e
theorem ResE.no {r:Nat × Rat} {k:Nat} {w':World} {e:Ending} (hr:r=(k,0)) (hk:k ≠ 0) (h:NoQ k e):ResE r w' e:=by
 unfold ResE; rw [hr,if_neg hk]; exact h
theorem ResE.got {r:Nat × Rat} {q:Rat} {w':World} {e:Ending} (hr:r=(0,q)) (h:GotQ w' q e):ResE r w' e:=by
 unfold ResE; rw [hr,if_pos rfl]; exact h
section
variable {p : Prg} {x y : List Qo}
theorem gap_chk (h:chkErr p x y ≠ 0):gapR p x y=(chkErr p x y,0):=if_pos h
theorem gap_C (h:chkErr p x y=0) (h1:dotO (valsQ p.C) (valsQ x)=none):gapR p x y=(3,0):=by
 unfold gapR; rw [if_neg (by simpa using h),show dotO p.rC (valsQ x)=none from h1]
theorem gap_B (h:chkErr p x y=0) (h1:dotO (valsQ p.B) (valsQ y)=none):gapR p x y=(3,0):=by
 unfold gapR; rw [if_neg (by simpa using h),show dotO p.rB (valsQ y)=none from h1]
 cases dotO p.rC (valsQ x) <;> rfl
theorem gap_S {a b:Rat} (h:chkErr p x y=0) (h1:dotO (valsQ p.C) (valsQ x)=some a) (h2:dotO (valsQ p.B) (valsQ y)=some b) (h3:¬ SubS b a):gapR p x y=(3,0):=by
 unfold gapR; rw [if_neg (by simpa using h),show dotO p.rC (valsQ x)=some a from h1,show dotO p.rB (valsQ y)=some b from h2];exact if_neg h3
theorem gap_ok {a b:Rat} (h:chkErr p x y=0) (h1:dotO (valsQ p.C) (valsQ x)=some a) (h2:dotO (valsQ p.B) (valsQ y)=some b) (h3:SubS b a):gapR p x y=(0,b - a):=by
 unfold gapR; rw [if_neg (by simpa using h),show dotO p.rC (valsQ x)=some a from h1,show dotO p.rB (valsQ y)=some b from h2];exact if_pos h3
end
open Classical in
noncomputable def optB (p:Prg) (x y:List Qo) (v:Qo):Bool:=decide (OptP p x y v)
section
variable {p : Prg} {x y : List Qo}
open Classical in
theorem opt_no {v:Qo} (h:chkErr p x y ≠ 0):optB p x y v=false:=by unfold optB; exact decide_eq_false fun hh => h hh.1
open Classical in
theorem opt_none:optB p x y none=false:=by unfold optB; exact decide_eq_false fun hh => by obtain ⟨_,r,hr,_⟩:=hh; cases hr
open Classical in
theorem opt_eq {r:Rat} {K1 K2:Nat} {c1 c2:Int} (h:chkErr p x y=0) (h1:agn (valsQ p.C) (valsQ x) r=(K1,c1)) (h2:agn (valsQ p.B) (valsQ y) r=(K2,c2)) :
  optB p x y (some r)=(decide ((K1:Int)=0) && decide ((K2:Int)=0) && decide (c1=0) && decide (c2=0)):=by
 by_cases hh:(K1:Int)=0∧(K2:Int)=0∧c1=0∧c2=0
 ·obtain ⟨a,b,c,d⟩:=hh;rw [decide_eq_true a,decide_eq_true b,decide_eq_true c,decide_eq_true d];obtain rfl:K1=0:=by omega
  obtain rfl:K2=0:=by omega
  subst c; subst d;unfold optB;exact decide_eq_true ⟨h,r,rfl,h1,h2⟩
 ·have e:optB p x y (some r)=false:=by unfold optB; exact decide_eq_false fun ⟨_,r',hr,g1,g2⟩ => hh (by
   cases hr
   have g1:agn (valsQ p.C) (valsQ x) r=(0,0):=g1;have g2:agn (valsQ p.B) (valsQ y) r=(0,0):=g2;rw [h1] at g1;rw [h2] at g2
   cases g1; cases g2
   exact ⟨rfl,rfl,rfl,rfl⟩)
  rw [e]
  symm
  rw [Bool.eq_false_iff];intro ht;simp only [Bool.and_eq_true,decide_eq_true_eq] at ht;exact hh ⟨ht.1.1.1,ht.1.1.2,ht.1.2,ht.2⟩
end
theorem Optimal_any (p:Prg) (x y:List Qo) (val:Qo) (vp vo:Value) (w:World) (h:PrgV w vp p) (ho:OptV w vo val x y) (hxl:x.length≤1000000000) (hyl:y.length≤1000000000) (hE:Env w) :
  Calls Tryz.prog 15 #[vp,vo] w fun e w' => e=.returned (.bool (optB p x y val))∧Below w.heap.size w w':=by
 obtain ⟨aA,cA,aB,cB,aC,cC,rfl,uA,uB,uC⟩:=h;obtain ⟨ng,ao,n,cap,nh,ap,m,caq,ax,cx,ay,cy,rfl,hv,ux,uy⟩:=ho;obtain ⟨R,hR⟩:∃ R,R=optB p x y val:=⟨_,rfl⟩;rw [← hR];have H_R:=hii hR;clear hR;go_enter Tryz.func15,Tryz.ntmps15;go_upto_region 1 with fail;obtain ⟨wx,hwx,rA,rO,hb⟩:=two_rows w 42 30 [.slice aA p.A.length cA,.slice aB p.B.length cB,.slice aC p.C.length cC] [.bool ng,.slice ao n cap,.bool nh,.slice ap m caq,.slice ax x.length cx,.slice ay y.length cy];simp only [List.toArray] at hwx;rw [← hwx];clear hwx;obtain ⟨g2,hg2⟩:∃ g2,g2=w.heap.size + 1:=⟨_,rfl⟩;rw [← hg2] at rO ⊢;clear hg2;obtain ⟨g,hg⟩:∃ g,g=w.heap.size:=⟨_,rfl⟩;rw [← hg] at rA ⊢;clear hg;obtain ⟨w1,rfl⟩:∃ w1:World,w1=wx:=⟨_,rfl⟩;have hbw:=hb;have uA:=uA.mono hb;have uB:=uB.mono hb;have uC:=uC.mono hb;have ux:=ux.mono hb;have uy:=uy.mono hb;have hv:=hv.mono hb;have hE:=hE.mono hb;clear hb;obtain ⟨x0,x1,x2⟩:=rA.n3;obtain ⟨y0,y1,y2,y3,y4,y5⟩:=rO.n6;obtain ⟨E,h_E⟩:∃ E,E=chkErr p x y:=⟨_,rfl⟩;have H_E:=hii h_E;clear h_E;have HV:=hii (dcheck_any p x y _ ax ay cx cy w1 ⟨aA,cA,aB,cB,aC,cC,rfl,uA,uB,uC⟩ hxl hyl ux uy hE);rw [← H_E.out] at HV;go_wp2_with fail;(with_reducible refine (HV.out).mono ?_);rintro e w1 ⟨rfl,hb⟩;have uB:=uB.mono hb;have uC:=uC.mono hb;have ux:=ux.mono hb;have uy:=uy.mono hb;have hv:=hv.mono hb;have hE:=hE.mono hb;have rA:=rA.below hb;have rO:=rO.below hb;have hbw:=bu hbw hb;clear hb;clear HV x0 x1 x2 y0 y1 y2 y3 y4 y5
 by_cases hz:E ≠ 0
 ·have g1:((E:Int) != 0)=true:=by rw [bne_iff_ne]; omega
  have Hz:=hii hz;clear hz;go_wp2;go_ret;exact ⟨by rw [H_R.out,opt_no (by rw [← H_E.out]; exact Hz.out)]; rfl,hbw⟩
 ·have Hc:Hid (chkErr p x y=0):=hii (by rw [← H_E.out]; omega);obtain rfl:E=0:=by omega
  clear hz;obtain ⟨y0,y1,y2,y3,y4,y5⟩:=rO.n6
  cases val with
  | none =>
   go_wp2_with fail;(with_reducible refine (dwrong_any _ false w1 hv.vq hE).mono ?_);rintro e w2 ⟨rfl,hb⟩;have hbw:=bu hbw hb;clear hb;clear y0 y1 y2 y3 y4 y5;go_wp2;go_ret;exact ⟨by rw [H_R.out,opt_none]; rfl,hbw⟩
  | some r =>
   go_wp2_with fail;(with_reducible refine (dwrong_any _ true w1 hv.vq hE).mono ?_);rintro e w3 ⟨rfl,hb⟩;have uB:=uB.mono hb;have uC:=uC.mono hb;have ux:=ux.mono hb;have uy:=uy.mono hb;have hv:=hv.mono hb;have hE:=hE.mono hb;have rA:=rA.below hb;have rO:=rO.below hb;have hbw:=bu hbw hb;clear hb;clear y0 y1 y2 y3 y4 y5;obtain ⟨f1,f2,f3,f4,f5,f6,f7⟩:=chk_zero Hc.out;obtain ⟨_,z2,z3⟩:=err_some f1;obtain ⟨z4,_⟩:=err_zero f1;have Hx:=hii f2.symm;have Hy:=hii f3.symm;have Hbx:=hii f4;have Hby:=hii f5;have HbB:=hii z2;have HbC:=hii z3;have hmB:p.B.length≤1000000000:=by omega
   have hmC:p.C.length≤1000000000:=by omega
   clear f1 f2 f3 f4 f5 f6 f7 z2 z3 z4;obtain ⟨K1,c1,ha1⟩:∃ K c,agn (valsQ p.C) (valsQ x) r=(K,c):=⟨_,_,rfl⟩;obtain ⟨K2,c2,ha2⟩:∃ K c,agn (valsQ p.B) (valsQ y) r=(K,c):=⟨_,_,rfl⟩;have HA1:=hii ha1;have HA2:=hii ha2;clear ha1 ha2;have hv:RatV _ _ r:=hv;obtain ⟨x0,x1,x2⟩:=rA.n3;obtain ⟨y0,y1,y2,y3,y4,y5⟩:=rO.n6;go_wp2_with fail;(with_reducible refine (dsum_at (ca:=cC) (cb:=cx) (k:=K1) (c:=c1) Hx HbC Hbx hmC uC ux hv HA1 hE).mono ?_);rintro e w4 ⟨rfl,hb⟩;have uB:=uB.mono hb;have uy:=uy.mono hb;have hv:=hv.mono hb;have hE:=hE.mono hb;have rA:=rA.below hb;have rO:=rO.below hb;have hbw:=bu hbw hb;clear hb;clear x0 x1 x2 y0 y1 y2 y3 y4 y5;obtain ⟨x0,x1,x2⟩:=rA.n3;obtain ⟨y0,y1,y2,y3,y4,y5⟩:=rO.n6;go_wp2_with fail;(with_reducible refine (dsum_at (ca:=cB) (cb:=cy) (k:=K2) (c:=c2) Hy HbB Hby hmB uB uy hv HA2 hE).mono ?_);rintro e w5 ⟨rfl,hb⟩;have hbw:=bu hbw hb;clear hb;clear x0 x1 x2 y0 y1 y2 y3 y4 y5;have HF:Hid (R=(decide ((K1:Int)=0) && decide ((K2:Int)=0) && decide (c1=0) && decide (c2=0))):=hii (by rw [H_R.out,opt_eq Hc.out HA1.out HA2.out]);clear HA1 HA2 Hx Hy Hbx Hby HbB HbC hmB hmC hxl hyl H_R H_E Hc;go_wp2
   all_goals go_ret
   all_goals exact ⟨by rw [HF.out]; clear HF; simp_all <;> exact (Bool.beq_eq_decide_eq _ _),hbw⟩
theorem Gap_any (p:Prg) (x y:List Qo) (vp:Value) (ax ay:Option Addr) (cx cy:Nat) (w:World) (h:PrgV w vp p) (hxl:x.length≤1000000000) (hyl:y.length≤1000000000) (ux:UQ w ax x) (uy:UQ w ay y) (hE:Env w) :
  Calls Tryz.prog 13 #[vp,.slice ax x.length cx,.slice ay y.length cy] w fun e w' => ResE (gapR p x y) w' e∧Below w.heap.size w w':=by
 obtain ⟨aA,cA,aB,cB,aC,cC,rfl,uA,uB,uC⟩:=h;go_enter Tryz.func13,Tryz.ntmps13;go_upto_region 1 with fail;obtain ⟨wx,hwx,rA,r6,hb⟩:=two_rows w 42 26 [.slice aA p.A.length cA,.slice aB p.B.length cB,.slice aC p.C.length cC] [.bool false,.slice none 0 0,.bool false,.slice none 0 0];simp only [List.toArray] at hwx;rw [← hwx];clear hwx;have Hge:Hid (w.heap.size≤w.heap.size + 1):=hii (by omega);obtain ⟨g2,hg2⟩:∃ g2,g2=w.heap.size + 1:=⟨_,rfl⟩;rw [← hg2] at r6 Hge ⊢;clear hg2;obtain ⟨g,hg⟩:∃ g,g=w.heap.size:=⟨_,rfl⟩;have hgg:w.heap.size=g:=hg.symm;simp only [hgg] at rA ⊢;have Hgg:=hii hgg;clear hg hgg;obtain ⟨w1,rfl⟩:∃ w1:World,w1=wx:=⟨_,rfl⟩;have hbw:=hb;have X6:=r6.box4;have uA:=uA.mono hb;have uB:=uB.mono hb;have uC:=uC.mono hb;have ux:=ux.mono hb;have uy:=uy.mono hb;have hE:=hE.mono hb;clear hb r6;obtain ⟨x0,x1,x2⟩:=rA.n3;obtain ⟨E,h_E⟩:∃ E,E=chkErr p x y:=⟨_,rfl⟩;have H_E:=hii h_E;clear h_E;have HV:=hii (dcheck_any p x y _ ax ay cx cy w1 ⟨aA,cA,aB,cB,aC,cC,rfl,uA,uB,uC⟩ hxl hyl ux uy hE);rw [← H_E.out] at HV;go_wp2_with fail;(with_reducible refine (HV.out).mono ?_);rintro e w1 ⟨rfl,hb⟩;have uB:=uB.mono hb;have uC:=uC.mono hb;have ux:=ux.mono hb;have uy:=uy.mono hb;have hE:=hE.mono hb;have rA:=rA.below hb;have X6:=X6.mono hb;have hbw:=bu hbw hb;clear hb;clear HV x0 x1 x2
 by_cases hz:E ≠ 0
 ·have g1:((E:Int) != 0)=true:=by rw [bne_iff_ne]; omega
  have Hz:=hii hz;clear hz;obtain ⟨b0,b1,b2,b3,_,_,_,_⟩:=id X6;go_wp2;refine bodyPost_ret (v:=.tuple #[.agg #[.bool false,.slice none 0 0,.bool false,.slice none 0 0],.int .i64 E]) (by simp [results,Tryz.results13,go_sem,b0,b1,b2,b3]) rfl ⟨ResE.no (gap_chk (by rw [← H_E.out]; exact Hz.out)) (by rw [← H_E.out]; exact Hz.out) (by rw [← H_E.out]; rfl),Below.put4 hbw Hge.out _ _ _ _⟩
 ·have Hc:Hid (chkErr p x y=0):=hii (by rw [← H_E.out]; omega);obtain rfl:E=0:=by omega
  clear hz;obtain ⟨f1,f2,f3,f4,f5,f6,f7⟩:=chk_zero Hc.out;obtain ⟨_,z2,z3⟩:=err_some f1;obtain ⟨z4,_⟩:=err_zero f1;have Hx:=hii f2.symm;have Hy:=hii f3.symm;have Hbx:=hii f4;have Hby:=hii f5;have HbB:=hii z2;have HbC:=hii z3;have hmB:p.B.length≤1000000000:=by omega
  have hmC:p.C.length≤1000000000:=by omega
  clear f1 f2 f3 f4 f5 f6 f7 z2 z3 z4;obtain ⟨x0,x1,x2⟩:=rA.n3;obtain ⟨D1,h_D1⟩:∃ D1,D1=dotO (valsQ p.C) (valsQ x):=⟨_,rfl⟩;have H_D1:=hii h_D1;clear h_D1;have HD:=hii (ddot_at (ca:=cC) (cb:=cx) Hx HbC Hbx hmC uC ux hE);rw [← H_D1.out] at HD;go_wp2_with fail;(with_reducible refine (HD.out).mono ?_);rintro e w2 ⟨hd,hb⟩;have uB:=uB.mono hb;have uy:=uy.mono hb;have hE:=hE.mono hb;have rA:=rA.below hb;have X6:=X6.mono hb;have hbw:=bu hbw hb;clear hb;clear HD x0 x1 x2
  cases D1 with
  | none =>
   have hd:NoQ 3 e:=hd;unfold NoQ at hd;subst hd;go_upto_region 5 with fail;have X0:=Box4.new w2 (.bool false) (.slice none 0 0) (.bool false) (.slice none 0 0) 26;have hb:=bA w2 (.cells #[.bool false,.slice none 0 0,.bool false,.slice none 0 0] 26);generalize w2.alloc (.cells #[.bool false,.slice none 0 0,.bool false,.slice none 0 0] 26)=v3 at *;obtain ⟨n0,hn0⟩:∃ n0,n0=w2.heap.size:=⟨_,rfl⟩;simp only [← hn0] at X0 ⊢;have X6:=X6.mono hb;have hbw:=bu hbw hb;clear hb;clear hn0;obtain ⟨b0,b1,b2,b3,_,_,_,_⟩:=id X6;go_wp2;refine bodyPost_ret (v:=.tuple #[.agg #[.bool false,.slice none 0 0,.bool false,.slice none 0 0],.int .i64 3]) (by simp [results,Tryz.results13,go_sem,b0,b1,b2,b3]) rfl ⟨ResE.no (gap_C Hc.out H_D1.out.symm) (by decide) rfl,Below.put4 hbw Hge.out _ _ _ _⟩
  | some a =>
   have hd:GotQ _ a e:=hd;obtain ⟨ng1,ao1,n1,cap1,nh1,ap1,m1,caq1,rfl,h1,h2⟩:=hd;have hva:RatV w2 (.agg #[.bool ng1,.slice ao1 n1 cap1,.bool nh1,.slice ap1 m1 caq1]) a:=⟨_,_,_,_,_,_,_,_,rfl,h1.out,h2.out⟩;clear h1 h2;go_upto_region 5 with fail;have X9:=Box4.new w2 (.bool ng1) (.slice ao1 n1 cap1) (.bool nh1) (.slice ap1 m1 caq1) 26;have hb:=bA w2 (.cells #[.bool ng1,.slice ao1 n1 cap1,.bool nh1,.slice ap1 m1 caq1] 26);generalize w2.alloc (.cells #[.bool ng1,.slice ao1 n1 cap1,.bool nh1,.slice ap1 m1 caq1] 26)=v4 at *;obtain ⟨n9,hn9⟩:∃ n9,n9=w2.heap.size:=⟨_,rfl⟩;simp only [← hn9] at X9 ⊢;have uB:=uB.mono hb;have uy:=uy.mono hb;have hE:=hE.mono hb;have rA:=rA.below hb;have X6:=X6.mono hb;have hva:=hva.mono hb;have hbw:=bu hbw hb;clear hb;clear hn9;obtain ⟨D2,h_D2⟩:∃ D2,D2=dotO (valsQ p.B) (valsQ y):=⟨_,rfl⟩;have H_D2:=hii h_D2;clear h_D2;obtain ⟨x0,x1,x2⟩:=rA.n3;have HD:=hii (ddot_at (ca:=cB) (cb:=cy) Hy HbB Hby hmB uB uy hE);rw [← H_D2.out] at HD;go_wp2_with fail;(with_reducible refine (HD.out).mono ?_);rintro e w5 ⟨hd,hb⟩;have hE:=hE.mono hb;have X6:=X6.mono hb;have hva:=hva.mono hb;have X9:=X9.mono hb;have hbw:=bu hbw hb;clear hb;clear HD x0 x1 x2
   cases D2 with
   | none =>
    have hd:NoQ 3 e:=hd;unfold NoQ at hd;subst hd;go_upto_region 8 with fail;have X0:=Box4.new w5 (.bool false) (.slice none 0 0) (.bool false) (.slice none 0 0) 26;have hb:=bA w5 (.cells #[.bool false,.slice none 0 0,.bool false,.slice none 0 0] 26);generalize w5.alloc (.cells #[.bool false,.slice none 0 0,.bool false,.slice none 0 0] 26)=v6 at *;obtain ⟨n0,hn0⟩:∃ n0,n0=w5.heap.size:=⟨_,rfl⟩;simp only [← hn0] at X0 ⊢;have X6:=X6.mono hb;have hbw:=bu hbw hb;clear hb;clear hn0;obtain ⟨b0,b1,b2,b3,_,_,_,_⟩:=id X6;go_wp2;refine bodyPost_ret (v:=.tuple #[.agg #[.bool false,.slice none 0 0,.bool false,.slice none 0 0],.int .i64 3]) (by simp [results,Tryz.results13,go_sem,b0,b1,b2,b3]) rfl ⟨ResE.no (gap_B Hc.out H_D2.out.symm) (by decide) rfl,Below.put4 hbw Hge.out _ _ _ _⟩
   | some b =>
    have hd:GotQ _ b e:=hd;obtain ⟨ng2,ao2,n2,cap2,nh2,ap2,m2,caq2,rfl,h1,h2⟩:=hd;have hvb:RatV w5 (.agg #[.bool ng2,.slice ao2 n2 cap2,.bool nh2,.slice ap2 m2 caq2]) b:=⟨_,_,_,_,_,_,_,_,rfl,h1.out,h2.out⟩;clear h1 h2;go_upto_region 8 with fail;have X11:=Box4.new w5 (.bool ng2) (.slice ao2 n2 cap2) (.bool nh2) (.slice ap2 m2 caq2) 26;have hb:=bA w5 (.cells #[.bool ng2,.slice ao2 n2 cap2,.bool nh2,.slice ap2 m2 caq2] 26);generalize w5.alloc (.cells #[.bool ng2,.slice ao2 n2 cap2,.bool nh2,.slice ap2 m2 caq2] 26)=v7 at *;obtain ⟨n11,hn11⟩:∃ n11,n11=w5.heap.size:=⟨_,rfl⟩;simp only [← hn11] at X11 ⊢;have hE:=hE.mono hb;have X6:=X6.mono hb;have hva:=hva.mono hb;have X9:=X9.mono hb;have hvb:=hvb.mono hb;have hbw:=bu hbw hb;clear hb;clear hn11;obtain ⟨d0,d1,d2,d3,_,_,_,_⟩:=id X9;obtain ⟨e0,e1,e2,e3,_,_,_,_⟩:=id X11
    by_cases hs:SubS b a
    ·have HS:=hii hs;clear hs;go_wp2_with fail;(with_reducible refine (Sub_q _ _ b a v7 hvb hva HS hE).mono ?_);rintro e w8 ⟨⟨ng3,ao3,n3,cap3,nh3,ap3,m3,caq3,rfl,h1,h2⟩,hb⟩;have X6:=X6.mono hb;have hbw:=bu hbw hb;clear hb;clear d0 d1 d2 d3 e0 e1 e2 e3;obtain ⟨b0,b1,b2,b3,_,_,_,_⟩:=id X6;go_wp2;refine bodyPost_ret (v:=.tuple #[.agg #[.bool ng3,.slice ao3 n3 cap3,.bool nh3,.slice ap3 m3 caq3],.int .i64 0]) (by simp [results,Tryz.results13,go_sem,b0,b1,b2,b3]) rfl ⟨ResE.got (gap_ok Hc.out H_D1.out.symm H_D2.out.symm HS.out) ⟨ng3,ao3,n3,cap3,nh3,ap3,m3,caq3,rfl,hii (h1.out.put4B X6 _ _ _ _),hii (h2.out.put4B X6 _ _ _ _)⟩,Below.put4 hbw Hge.out _ _ _ _⟩
    ·have HS:=hii hs;clear hs;go_wp2_with fail;(with_reducible refine (Sub_qbig _ _ b a v7 hvb hva HS hE).mono ?_);rintro e w9 ⟨rfl,hb⟩;have X6:=X6.mono hb;have hbw:=bu hbw hb;clear hb;clear d0 d1 d2 d3 e0 e1 e2 e3;obtain ⟨b0,b1,b2,b3,_,_,_,_⟩:=id X6;go_wp2;refine bodyPost_ret (v:=.tuple #[.agg #[.bool false,.slice none 0 0,.bool false,.slice none 0 0],.int .i64 3]) (by simp [results,Tryz.results13,go_sem,b0,b1,b2,b3]) rfl ⟨ResE.no (gap_S Hc.out H_D1.out.symm H_D2.out.symm HS.out) (by decide) rfl,Below.put4 hbw Hge.out _ _ _ _⟩
end Go.Proofs.YtaedmaifkfhpfaaGreatDoor
