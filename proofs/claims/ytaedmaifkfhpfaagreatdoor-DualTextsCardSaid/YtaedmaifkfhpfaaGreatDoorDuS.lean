/-
  Slack, in the program and in the reference.
-/
import Derived.Test.YtaedmaifkfhpfaaGreatDoorDuR
set_option linter.unusedVariables false
set_option linter.unusedSimpArgs false
set_option maxRecDepth 100000
set_option maxHeartbeats 25600000
namespace Go.Proofs.YtaedmaifkfhpfaaGreatDoor
open Go.RowKit
def fitB (r:Rat) (k:Nat) (c:Int):Bool:=decide ((k:Int)=0) && (decide (c=0) || decide (sgnI r.num=0))
theorem sgnI_zero (z:Int):sgnI z=0↔z=0:=by
 unfold sgnI
 split
 ·next h => simp [h]
 ·split
  ·next h h2 => simp [h]
  ·next h h2 => simp [h]
theorem fit_iff {r b:Rat} {a x:List Rat} {k:Nat} {c:Int} (h:agn a x b=(k,c)):fitO r a x b↔fitB r k c=true:=by
 unfold fitO fitB;rw [h];simp only [Bool.and_eq_true,Bool.or_eq_true,decide_eq_true_eq,sgnI_zero];omega
theorem getD_of {α:Type} {l:List α} {k:Nat} {a d:α} (h:l[k]?=some a):l.getD k d=a:=by
 rw [List.getD_eq_getElem?_getD,h]; rfl
theorem vals_at {l:List Qo} {k:Nat} {r:Rat} (h:l[k]?=some (some r)):(valsQ l)[k]?=some r:=by
 unfold valsQ; rw [List.getElem?_map,h]; rfl
theorem bad_at {l:List Qo} {k:Nat} {q:Qo} (hb:badQ l=false) (h:l[k]?=some q):∃ r,q=some r:=by
 unfold badQ at hb;rw [List.any_eq_false] at hb;have:=hb q (List.mem_of_getElem? h)
 cases q with
 | none => simp at this
 | some r => exact ⟨r,rfl⟩
open Classical in
noncomputable def slackB (p:Prg) (x y:List Qo):Bool:=decide (SlackP p x y)
section
variable {p : Prg} {x y : List Qo}
open Classical in
theorem slack_no (h:chkErr p x y ≠ 0):slackB p x y=false:=by unfold slackB; exact decide_eq_false fun hh => h hh.1
open Classical in
theorem slack_row {k:Nat} (hk:k < p.B.length) (h:¬ fitO (fL (valsQ y) k) (p.rA.getD k []) (valsQ x) (fL p.rB k)):slackB p x y=false:=by unfold slackB; exact decide_eq_false fun hh => h (hh.2.1 k hk)
open Classical in
theorem slack_col {k:Nat} (hk:k < p.C.length) (h:¬ fitO (fL (valsQ x) k) (colR p.rA k) (valsQ y) (fL p.rC k)):slackB p x y=false:=by unfold slackB; exact decide_eq_false fun hh => h (hh.2.2 k hk)
open Classical in
theorem slack_yes (h:chkErr p x y=0) (h1:∀ k,k < p.B.length→fitO (fL (valsQ y) k) (p.rA.getD k []) (valsQ x) (fL p.rB k)) (h2:∀ k,k < p.C.length→fitO (fL (valsQ x) k) (colR p.rA k) (valsQ y) (fL p.rC k)):slackB p x y=true:=by unfold slackB; exact decide_eq_true ⟨h,h1,h2⟩
end
theorem dfits_any (la lx:List Rat) (b r:Rat) (k:Nat) (c:Int) (na nx:Nat) (aa ax:Option Addr) (ca cx:Nat) (vr vb:Value) (w:World) (hna:Hid (na=la.length)) (hnx:Hid (nx=lx.length)) (hm:na≤1000000000) (hl:Hid (la.length=lx.length)) (ua:UQ w aa (la.map some)) (ux:UQ w ax (lx.map some)) (hvr:RatV w vr r) (hvb:RatV w vb b) (hA:Hid (agn la lx b=(k,c))) (hE:Env w) :
  Calls Tryz.prog 38 #[vr,.slice aa na ca,.slice ax nx cx,vb] w fun e w' => e=.returned (.bool (fitB r k c))∧Below w.heap.size w w':=by
 obtain rfl:=hna.out;obtain rfl:=hnx.out;obtain ⟨s,hs⟩:∃ s,sgnI r.num=s:=⟨_,rfl⟩;have Hs:=hii hs;obtain ⟨R,hR⟩:∃ R,R=fitB r k c:=⟨_,rfl⟩;rw [← hR];have HR:Hid (R=(decide ((k:Int)=0) && (decide (c=0) || decide (s=0)))):=hii (by rw [hR,fitB,hs]);clear hR hs;obtain ⟨ng1,ao1,n1,cap1,nh1,ap1,m1,caq1,rfl⟩:=hvb.parts;obtain ⟨ng2,ao2,n2,cap2,nh2,ap2,m2,caq2,rfl,h1,h2⟩:=hvr;have HV:=hii h1;clear h1 h2;go_enter Tryz.func38,Tryz.ntmps38;go_upto_region 1 with fail;obtain ⟨wx,hwx,r2,r1,hb⟩:=two_rows w 26 26 [.bool ng2,.slice ao2 n2 cap2,.bool nh2,.slice ap2 m2 caq2] [.bool ng1,.slice ao1 n1 cap1,.bool nh1,.slice ap1 m1 caq1];simp only [List.toArray] at hwx;rw [← hwx];clear hwx;obtain ⟨g2,hg2⟩:∃ g2,g2=w.heap.size + 1:=⟨_,rfl⟩;rw [← hg2] at r1 ⊢;clear hg2;obtain ⟨g,hg⟩:∃ g,g=w.heap.size:=⟨_,rfl⟩;rw [← hg] at r2 ⊢;clear hg;obtain ⟨w1,rfl⟩:∃ w1:World,w1=wx:=⟨_,rfl⟩;have hbw:=hb;have ua:=ua.mono hb;have ux:=ux.mono hb;have hvb:=hvb.mono hb;have HV:=hii (HV.out.mono hb);have hE:=hE.mono hb;clear hb;obtain ⟨x0,x1,x2,x3⟩:=r1.n4;go_wp2_with fail;(with_reducible refine (dsum_any la lx b k c aa ax ca cx _ w1 hm hl.out ua ux hvb hA hE).mono ?_);rintro e w2 ⟨rfl,hb⟩;have r2:=r2.below hb;have HV:=hii (HV.out.mono hb);have hE:=hE.mono hb;have hbw:=bu hbw hb;clear hb x0 x1 x2 x3 hA hnx hna hl;obtain ⟨x0,x1,x2,x3⟩:=r2.n4
 by_cases hk:(k:Int)=0
 ·obtain rfl:k=0:=by omega
  by_cases hc:c=0
  ·subst hc;go_wp2;go_ret;exact ⟨by rw [HR.out]; simp,hbw⟩
  ·have g1:(c == 0)=false:=by simpa using hc
   have Hc:=hii hc;clear hc;go_wp2_with fail;(with_reducible refine (Sign_eq _ r.num s w2 Hs HV.out hE).mono ?_);rintro e w3 ⟨rfl,hb⟩;have hbw:=bu hbw hb;clear hb;go_wp2;go_ret;have Hc:=Hc.out;exact ⟨by rw [HR.out]; simp [Hc]; exact Bool.beq_eq_decide_eq _ _,hbw⟩
 ·have g1:((k:Int) == 0)=false:=by simpa using hk
  have Hk:=hii hk;clear hk;go_wp2;go_ret;have Hk:=Hk.out;exact ⟨by rw [HR.out,decide_eq_false Hk]; simp,hbw⟩
theorem Slack_any (p:Prg) (x y:List Qo) (val:Qo) (vp vo:Value) (w:World) (h:PrgV w vp p) (ho:OptV w vo val x y) (hxl:x.length≤1000000000) (hyl:y.length≤1000000000) (hE:Env w) :
  Calls Tryz.prog 16 #[vp,vo] w fun e w' => e=.returned (.bool (slackB p x y))∧Below w.heap.size w w':=by
 obtain ⟨aA,cA,aB,cB,aC,cC,rfl,uA,uB,uC⟩:=h;obtain ⟨ng,ao,n,cap,nh,ap,m,caq,ax,cx,ay,cy,rfl,hv,ux,uy⟩:=ho;clear hv;obtain ⟨R,hR⟩:∃ R,R=slackB p x y:=⟨_,rfl⟩;rw [← hR];have H_R:=hii hR;clear hR;go_enter Tryz.func16,Tryz.ntmps16;go_upto_region 1 with fail;obtain ⟨wx,hwx,rA,rO,hb⟩:=two_rows w 42 30 [.slice aA p.A.length cA,.slice aB p.B.length cB,.slice aC p.C.length cC] [.bool ng,.slice ao n cap,.bool nh,.slice ap m caq,.slice ax x.length cx,.slice ay y.length cy];simp only [List.toArray] at hwx;rw [← hwx];clear hwx;obtain ⟨g2,hg2⟩:∃ g2,g2=w.heap.size + 1:=⟨_,rfl⟩;rw [← hg2] at rO ⊢;clear hg2;obtain ⟨g,hg⟩:∃ g,g=w.heap.size:=⟨_,rfl⟩;rw [← hg] at rA ⊢;clear hg;obtain ⟨w1,rfl⟩:∃ w1:World,w1=wx:=⟨_,rfl⟩;have hbw:=hb;have uA:=uA.mono hb;have uB:=uB.mono hb;have uC:=uC.mono hb;have ux:=ux.mono hb;have uy:=uy.mono hb;have hE:=hE.mono hb;clear hb;obtain ⟨x0,x1,x2⟩:=rA.n3;obtain ⟨y0,y1,y2,y3,y4,y5⟩:=rO.n6;obtain ⟨E,h_E⟩:∃ E,E=chkErr p x y:=⟨_,rfl⟩;have H_E:=hii h_E;clear h_E;have HV:=hii (dcheck_any p x y _ ax ay cx cy w1 ⟨aA,cA,aB,cB,aC,cC,rfl,uA,uB,uC⟩ hxl hyl ux uy hE);rw [← H_E.out] at HV;go_wp2_with fail;(with_reducible refine (HV.out).mono ?_);rintro e w1 ⟨rfl,hb⟩;have uA:=uA.mono hb;have uB:=uB.mono hb;have uC:=uC.mono hb;have ux:=ux.mono hb;have uy:=uy.mono hb;have hE:=hE.mono hb;have rA:=rA.below hb;have rO:=rO.below hb;have hbw:=bu hbw hb;clear hb;clear HV x0 x1 x2 y0 y1 y2 y3 y4 y5
 by_cases hz:E ≠ 0
 ·have g1:((E:Int) != 0)=true:=by rw [bne_iff_ne]; omega
  have Hz:=hii hz;clear hz;go_wp2;go_ret;exact ⟨by rw [H_R.out,slack_no (by rw [← H_E.out]; exact Hz.out)]; rfl,hbw⟩
 ·have Hc:Hid (chkErr p x y=0):=hii (by rw [← H_E.out]; omega);obtain rfl:E=0:=by omega
  clear hz;obtain ⟨f1,f2,f3,f4,f5,f6,f7⟩:=chk_zero Hc.out;have HF:=hii (err_fit f1);obtain ⟨z4,_⟩:=err_zero f1;obtain ⟨nA,nB,nC⟩:=prg_num f1 uA uB uC;have nx:=ux.vals f4;have ny:=uy.vals f5;have Hbx:=hii f4;have Hby:=hii f5;have Hx:=hii f2;have Hy:=hii f3;have hmB:p.B.length≤14:=by omega
  have hmC:p.C.length≤400:=by omega
  have hmA:p.A.length≤1000000:=by omega
  have HAB:Hid (p.A.length=p.B.length):=hii (by omega);clear f1 f2 f3 f4 f5 f6 f7 z4 uA uB uC;obtain ⟨wl,rfl⟩:∃ wl:World,wl=w1:=⟨_,rfl⟩;obtain ⟨x0,x1,x2⟩:=rA.n3;obtain ⟨y0,y1,y2,y3,y4,y5⟩:=rO.n6;go_wp2_with fail;clear x0 x1 x2 y0 y1 y2 y3 y4 y5;go_loopw [19] (fun s wr => ∃ k:Nat,k≤p.B.length∧s=.int .i64 k∧Hid (∀ j,j < k→fitO (fL (valsQ y) j) (p.rA.getD j []) (valsQ x) (fL p.rB j))∧Env wr∧Below wl.heap.size wl wr) (fun s _ => p.B.length - (intOf s).toNat)
  case atStart => exact ⟨0,Nat.zero_le _,rfl,hii (fun j hj => by omega),hE,br⟩
  case round =>
   clear hE;obtain ⟨k,hk,rfl,HN,hE,hbr⟩:=hrel;have hbw:=bu hbw hbr;have rA:=rA.below hbr;have rO:=rO.below hbr;have ux:=ux.mono hbr;have uy:=uy.mono hbr;have nA:=nA.mono hbr;have nB:=nB.mono hbr;have nC:=nC.mono hbr;have nx:=nx.mono hbr;have ny:=ny.mono hbr
   by_cases hlt:k < p.B.length
   ·obtain ⟨q,hq⟩:∃ q,y[k]?=some q:=⟨y[k]'(by have:=Hy.out; omega),gE (by have:=Hy.out; omega)⟩;obtain ⟨r,rfl⟩:=bad_at Hby.out hq;obtain ⟨bq,offq,ng1,ao1,n1,cap1,nh1,ap1,m1,caq1,eq0,FQ,hvr0⟩:=uy k _ hq;have hvr:RatV wr (.agg #[.bool ng1,.slice ao1 n1 cap1,.bool nh1,.slice ap1 m1 caq1]) r:=hvr0;obtain ⟨b,hb0⟩:∃ b,p.rB[k]?=some b:=⟨p.rB[k]'(by rw [rB_len]; exact hlt),gE (by rw [rB_len]; exact hlt)⟩;obtain ⟨bb,offb,ng2,ao2,n2,cap2,nh2,ap2,m2,caq2,eb,FB,hvb0⟩:=nB k (some b) (by simp [hb0]);have hvb:RatV wr (.agg #[.bool ng2,.slice ao2 n2 cap2,.bool nh2,.slice ap2 m2 caq2]) b:=hvb0;subst eq0;subst eb;have hlA:k < p.rA.length:=by rw [rA_len,HAB.out]; exact hlt
    obtain ⟨a,ha0⟩:∃ x,p.rA[k]?=some x:=⟨p.rA[k],gE hlA⟩;obtain ⟨b0,off0,ar,cr,ea,hc,uR⟩:=nA k (a.map some) (by simp [ha0]);rw [List.length_map] at hc;subst ea;have hal:a.length=p.C.length:=by have:=HF.out.cols a (List.mem_of_getElem? ha0); rw [this,rC_len]
    obtain ⟨ke,c,hag⟩:∃ ke c,agn a (valsQ x) b=(ke,c):=⟨_,_,rfl⟩;have HAG:=hii hag;have HFI:Hid (fitO (fL (valsQ y) k) (p.rA.getD k []) (valsQ x) (fL p.rB k)↔fitB r ke c=true):=hii (by
     rw [show fL (valsQ y) k=r from getD_of (vals_at hq),show p.rA.getD k []=a from getD_of ha0,show fL p.rB k=b from getD_of hb0];exact fit_iff hag)
    have hal2:a.length≤1000000000:=by omega
    have HAL:Hid (a.length=(valsQ x).length):=hii (by rw [vals_length,hal,Hx.out]);have HKA:k < p.A.length:=by rw [HAB.out]; exact hlt
    clear ha0 hb0 hag hq hal hvr0 hvb0 hlA;have hl1:k < y.length:=by have:=Hy.out; omega
    have Hnx:Hid (x.length=(valsQ x).length):=hii (vals_length _).symm;have Hny:Hid (y.length=(valsQ y).length):=hii (vals_length _).symm;obtain ⟨x0,x1,x2⟩:=rA.n3;obtain ⟨y0,y1,y2,y3,y4,y5⟩:=rO.n6;obtain ⟨d0,d1,d2,d3,_,_,_,_⟩:=id FQ;go_upto_region 6 with fail;clear x0 x1 x2 y0 y1 y2 y3 y4 y5 d0 d1 d2 d3;have X9:=Box4.new wr (.bool ng1) (.slice ao1 n1 cap1) (.bool nh1) (.slice ap1 m1 caq1) 26;have hb:=bA wr (.cells #[.bool ng1,.slice ao1 n1 cap1,.bool nh1,.slice ap1 m1 caq1] 26);generalize wr.alloc (.cells #[.bool ng1,.slice ao1 n1 cap1,.bool nh1,.slice ap1 m1 caq1] 26)=wv at *;obtain ⟨n9,hn9⟩:∃ n9,n9=wr.heap.size:=⟨_,rfl⟩;simp only [← hn9] at X9 ⊢;have hc:=(hb.cell (p:=⟨b0,off0 + k,none⟩) (cell_lt hc)).trans hc;have nx:=nx.mono hb;have hE:=hE.mono hb;have rA:=rA.below hb;have rO:=rO.below hb;have hbr:=bu hbr hb;have hvr:=hvr.mono hb;have hvb:=hvb.mono hb;have FB:=FB.mono hb;have uR:=uR.mono hb;have hbw:=bu hbw hb;clear hb;clear hn9;refine wp_region_use (wx:=wv) [(fun _ v => v=.agg #[.bool ng1,.slice ao1 n1 cap1,.bool nh1,.slice ap1 m1 caq1]),(fun _ v => v=.pointer (some ⟨g,0,none⟩)),(fun _ v => v=.slice (some ⟨b0,off0,none⟩) p.A.length cA),(fun _ v => v=.int .i64 k),(fun _ v => v=.pointer (some ⟨b0,off0 + k,none⟩)),(fun _ v => v=.slice ar a.length cr),(fun _ v => v=.pointer (some ⟨g2,4,none⟩)),(fun _ v => v=.slice ax x.length cx),(fun _ v => v=.pointer (some ⟨g,1,none⟩)),(fun _ v => v=.slice (some ⟨bb,offb,none⟩) p.B.length cB),(fun _ v => v=.int .i64 k),(fun _ v => v=.pointer (some ⟨bb,offb + k * 4,none⟩)),(fun _ v => v=.agg #[.bool ng2,.slice ao2 n2 cap2,.bool nh2,.slice ap2 m2 caq2]),(fun _ v => v=.bool (fitB r ke c)),(fun _ v => v=.bool (!(fitB r ke c)))] [none,none,none,none,none,none,none,none,none,none,none,none,none,none,none] [true,true,true,true,true,true,true,true,true,true,true,true,true,true,true] [some 24,some 25,some 26,some 27,some 28,some 29,some 30,some 31,some 32,some 33,some 34,some 35,some 36,some 37,some 38] [24,25,26,27,28,29,30,31,32,33,34,35,36,37,38] 0 0 (fun _ _ => True) (by decide) (by kernel_rfl) (by kernel_rfl) (by kernel_rfl) (by kernel_rfl) (of_decide_eq_true (by kernel_rfl)) (by kernel_rfl) (by kernel_rfl) (trivial) (fun _ _ _ h _ => h) br ⟨sV _,sV _,sV _,sV _,sV _,sV _,sV _,sV _,sV _,sV _,sV _,sV _,sV _,sV _,sV _,trivial⟩ ⟨fun _ => cV _,fun _ => cV _,fun _ => cV _,fun _ => cV _,fun _ => cV _,fun _ => cV _,fun _ => cV _,fun _ => cV _,fun _ => cV _,fun _ => cV _,fun _ => cV _,fun _ => cV _,fun _ => cV _,fun _ => cV _,fun _ => cV _,trivial⟩ ⟨?s0,?s1,?s2,?s3,?s4,?s5,?s6,?s7,?s8,?s9,?s10,?s11,?s12,?s13,?s14,trivial⟩ ?he
    case s0 =>
     rintro T W hb hp hA K hK;have hp:=hp rfl;obtain ⟨d0,d1,d2,d3,_,_,_,_⟩:=X9.mono hb;simp only [ovr,Act.put,List.setIfInBounds_toArray,List.set_cons_zero,List.set_cons_succ] at hK ⊢;have HK:=hii hK;clear hK hA;refine wO rfl (by rfl) ?_;go_simp;exact HK.out _ _ ⟨hb,fun _ => br⟩ rfl
    case s1 | s3 | s6 | s8 | s10 =>
     rintro T W hb - hA K hK;simp only [ovr,Act.put,List.setIfInBounds_toArray,List.set_cons_zero,List.set_cons_succ] at hK ⊢;have HK:=hii hK;clear hK hA;refine wO rfl (by rfl) ?_;go_simp;exact HK.out _ _ ⟨hb,fun _ => br⟩ rfl
    case s2 =>
     rintro T W hb - hA K hK;have e1:T 25=.pointer (some ⟨g,0,none⟩):=hA.1 (by decide);obtain ⟨x0,x1,x2⟩:=(rA.below hb).n3;simp only [ovr,Act.put,List.setIfInBounds_toArray,List.set_cons_zero,List.set_cons_succ,e1] at hK ⊢;have HK:=hii hK;clear hK hA;refine wO rfl (by rfl) ?_;go_simp;exact HK.out _ _ ⟨hb,fun _ => br⟩ rfl
    case s4 =>
     rintro T W hb - hA K hK;have e2:T 26=.slice (some ⟨b0,off0,none⟩) p.A.length cA:=hA.1 (by decide);have e3:T 27=.int .i64 k:=hA.2.1 (by decide);simp only [ovr,Act.put,List.setIfInBounds_toArray,List.set_cons_zero,List.set_cons_succ,e2,e3] at hK ⊢;have HK:=hii hK;clear hK hA;refine wO rfl (by rfl) ?_;go_simp;exact HK.out _ _ ⟨hb,fun _ => br⟩ rfl
    case s5 =>
     rintro T W hb - hA K hK;have e4:T 28=.pointer (some ⟨b0,off0 + k,none⟩):=hA.1 (by decide);have hc:=(hb.cell (p:=⟨b0,off0 + k,none⟩) (cell_lt hc)).trans hc;simp only [ovr,Act.put,List.setIfInBounds_toArray,List.set_cons_zero,List.set_cons_succ,e4] at hK ⊢;have HK:=hii hK;clear hK hA;refine wO rfl (by rfl) ?_;go_simp;exact HK.out _ _ ⟨hb,fun _ => br⟩ rfl
    case s7 =>
     rintro T W hb - hA K hK;have e6:T 30=.pointer (some ⟨g2,4,none⟩):=hA.1 (by decide);obtain ⟨y0,y1,y2,y3,y4,y5⟩:=(rO.below hb).n6;simp only [ovr,Act.put,List.setIfInBounds_toArray,List.set_cons_zero,List.set_cons_succ,e6] at hK ⊢;have HK:=hii hK;clear hK hA;refine wO rfl (by rfl) ?_;go_simp;exact HK.out _ _ ⟨hb,fun _ => br⟩ rfl
    case s9 =>
     rintro T W hb - hA K hK;have e8:T 32=.pointer (some ⟨g,1,none⟩):=hA.1 (by decide);obtain ⟨x0,x1,x2⟩:=(rA.below hb).n3;simp only [ovr,Act.put,List.setIfInBounds_toArray,List.set_cons_zero,List.set_cons_succ,e8] at hK ⊢;have HK:=hii hK;clear hK hA;refine wO rfl (by rfl) ?_;go_simp;exact HK.out _ _ ⟨hb,fun _ => br⟩ rfl
    case s11 =>
     rintro T W hb - hA K hK;have e9:T 33=.slice (some ⟨bb,offb,none⟩) p.B.length cB:=hA.1 (by decide);have e10:T 34=.int .i64 k:=hA.2.1 (by decide);simp only [ovr,Act.put,List.setIfInBounds_toArray,List.set_cons_zero,List.set_cons_succ,e9,e10] at hK ⊢;have HK:=hii hK;clear hK hA;refine wO rfl (by rfl) ?_;go_simp;exact HK.out _ _ ⟨hb,fun _ => br⟩ rfl
    case s12 =>
     rintro T W hb - hA K hK;have e11:T 35=.pointer (some ⟨bb,offb + k * 4,none⟩):=hA.1 (by decide);obtain ⟨f0,f1,f2,f3,_,_,_,_⟩:=FB.mono hb;simp only [ovr,Act.put,List.setIfInBounds_toArray,List.set_cons_zero,List.set_cons_succ,e11] at hK ⊢;have HK:=hii hK;clear hK hA;refine wO rfl (by rfl) ?_;go_simp;exact HK.out _ _ ⟨hb,fun _ => br⟩ rfl
    case s13 =>
     rintro T W hb - hA K hK;have e0:T 24=.agg #[.bool ng1,.slice ao1 n1 cap1,.bool nh1,.slice ap1 m1 caq1]:=hA.1 (by decide);have e5:T 29=.slice ar a.length cr:=hA.2.1 (by decide);have e7:T 31=.slice ax x.length cx:=hA.2.2.1 (by decide);have e12:T 36=.agg #[.bool ng2,.slice ao2 n2 cap2,.bool nh2,.slice ap2 m2 caq2]:=hA.2.2.2.1 (by decide);simp only [ovr,Act.put,List.setIfInBounds_toArray,List.set_cons_zero,List.set_cons_succ,e0,e5,e7,e12] at hK ⊢;have HK:=hii hK;clear hK hA;refine wO rfl (by rfl) ?_;go_simp;(with_reducible refine (dfits_any a (valsQ x) b r ke c _ _ ar ax cr cx _ _ W (hii rfl) Hnx hal2 HAL (uR.mono hb) (nx.mono hb) (hvr.mono hb) (hvb.mono hb) HAG (hE.mono hb)).mono ?_);rintro e w1 ⟨rfl,hb1⟩
     try dsimp only
     exact HK.out _ _ ⟨bu hb hb1,fun _ => hb1⟩ rfl
    case s14 =>
     rintro T W hb - hA K hK;have e13:T 37=.bool (fitB r ke c):=hA.1 (by decide);simp only [ovr,Act.put,List.setIfInBounds_toArray,List.set_cons_zero,List.set_cons_succ,e13] at hK ⊢;have HK:=hii hK;clear hK hA;refine wO rfl (by rfl) ?_;go_simp;exact HK.out _ _ ⟨hb,fun _ => br⟩ rfl
    case he =>
     rintro T W hb hA;have f1:T 38=.bool (!(fitB r ke c)):=hA.of 14 (by decide) (by decide);simp only [ovr,List.setIfInBounds_toArray,List.set_cons_zero,List.set_cons_succ,f1];have hE:=hE.mono hb;have hbr:=bu hbr hb;have rA:=rA.below hb;have hbw:=bu hbw hb;clear hb;clear hA f1;obtain ⟨wz,rfl⟩:∃ wz:World,wz=W:=⟨_,rfl⟩;obtain ⟨ft,h_ft⟩:∃ ft,ft=fitB r ke c:=⟨_,rfl⟩;have H_ft:=hii h_ft;clear h_ft;rw [← H_ft.out]
     cases ft with
     | false =>
      have Hno:Hid (¬ fitO (fL (valsQ y) k) (p.rA.getD k []) (valsQ x) (fL p.rB k)):=hii (by rw [HFI.out,← H_ft.out]; decide);go_wp2;go_ret;exact ⟨by rw [H_R.out,slack_row hlt Hno.out]; rfl,hbw⟩
     | true =>
      have Hyes:Hid (fitO (fL (valsQ y) k) (p.rA.getD k []) (valsQ x) (fL p.rB k)):=hii (HFI.out.2 H_ft.out.symm);go_wp2;go_roundw
      case rel =>
       refine ⟨k + 1,by omega,by go_num,hii fun j hj => ?_,hE,hbr⟩
       by_cases hjk:j=k
       ·subst hjk; exact Hyes.out
       ·exact HN.out j (by omega)
      case measure => simp [intOf]; omega
   ·obtain rfl:k=p.B.length:=by omega
    have hln:y.length=p.B.length:=Hy.out;rw [hln];obtain ⟨x0,x1,x2⟩:=rA.n3;obtain ⟨y0,y1,y2,y3,y4,y5⟩:=rO.n6;go_wp2_with fail;clear x0 x1 x2 y0 y1 y2 y3 y4 y5;clear hln;obtain ⟨wl2,rfl⟩:∃ wl2:World,wl2=wr:=⟨_,rfl⟩;clear hbr hk hlt;go_loopw [43] (fun s wr => ∃ k:Nat,k≤p.C.length∧s=.int .i64 k∧Hid (∀ j,j < k→fitO (fL (valsQ x) j) (colR p.rA j) (valsQ y) (fL p.rC j))∧Env wr∧Below wl2.heap.size wl2 wr) (fun s _ => p.C.length - (intOf s).toNat)
    case atStart => exact ⟨0,Nat.zero_le _,rfl,hii (fun j hj => by omega),hE,br⟩
    case round =>
     clear hE;obtain ⟨k,hk,rfl,HM,hE,hbr⟩:=hrel;have hbw:=bu hbw hbr;have rA:=rA.below hbr;have rO:=rO.below hbr;have nA:=nA.mono hbr;have nB:=nB.mono hbr;have nC:=nC.mono hbr;have nx:=nx.mono hbr;have ny:=ny.mono hbr;have ux:=ux.mono hbr;have uy:=uy.mono hbr
     by_cases hlt:k < p.C.length
     ·obtain ⟨q,hq⟩:∃ q,x[k]?=some q:=⟨x[k]'(by have:=Hx.out; omega),gE (by have:=Hx.out; omega)⟩;obtain ⟨r,rfl⟩:=bad_at Hbx.out hq;obtain ⟨bq,offq,ng1,ao1,n1,cap1,nh1,ap1,m1,caq1,eq0,FQ,hvr0⟩:=ux k _ hq;have hvr:RatV wr (.agg #[.bool ng1,.slice ao1 n1 cap1,.bool nh1,.slice ap1 m1 caq1]) r:=hvr0;obtain ⟨b,hb0⟩:∃ b,p.rC[k]?=some b:=⟨p.rC[k]'(by rw [rC_len]; exact hlt),gE (by rw [rC_len]; exact hlt)⟩;obtain ⟨bb,offb,ng2,ao2,n2,cap2,nh2,ap2,m2,caq2,eb,FB,hvb0⟩:=nC k (some b) (by simp [hb0]);have hvb:RatV wr (.agg #[.bool ng2,.slice ao2 n2 cap2,.bool nh2,.slice ap2 m2 caq2]) b:=hvb0;subst eq0;subst eb;obtain ⟨ke,c,hag⟩:∃ ke c,agn (colR p.rA k) (valsQ y) b=(ke,c):=⟨_,_,rfl⟩;have HAG:=hii hag;have HFI:Hid (fitO (fL (valsQ x) k) (colR p.rA k) (valsQ y) (fL p.rC k)↔fitB r ke c=true):=hii (by
       rw [show fL (valsQ x) k=r from getD_of (vals_at hq),show fL p.rC k=b from getD_of hb0];exact fit_iff hag)
      have HJ:Hid (∀ r∈p.rA,k < r.length):=hii fun r hr => by rw [HF.out.cols r hr,rC_len]; exact hlt
      have HKL:Hid ((colR p.rA k).length=(valsQ y).length):=hii (by rw [colR_length,rA_len,HAB.out,vals_length,Hy.out]);have hcl:(colR p.rA k).length≤1000000000:=by rw [HKL.out,vals_length]; exact hyl
      clear hb0 hag hq hvr0 hvb0;have hl1:k < x.length:=by have:=Hx.out; omega
      have Hnx:Hid (x.length=(valsQ x).length):=hii (vals_length _).symm;have Hny:Hid (y.length=(valsQ y).length):=hii (vals_length _).symm;obtain ⟨x0,x1,x2⟩:=rA.n3;obtain ⟨y0,y1,y2,y3,y4,y5⟩:=rO.n6;obtain ⟨d0,d1,d2,d3,_,_,_,_⟩:=id FQ;go_upto_region 12 with fail;clear x0 x1 x2 y0 y1 y2 y3 y4 y5 d0 d1 d2 d3;have X9:=Box4.new wr (.bool ng1) (.slice ao1 n1 cap1) (.bool nh1) (.slice ap1 m1 caq1) 26;have hb:=bA wr (.cells #[.bool ng1,.slice ao1 n1 cap1,.bool nh1,.slice ap1 m1 caq1] 26);generalize wr.alloc (.cells #[.bool ng1,.slice ao1 n1 cap1,.bool nh1,.slice ap1 m1 caq1] 26)=wv at *;obtain ⟨n9,hn9⟩:∃ n9,n9=wr.heap.size:=⟨_,rfl⟩;simp only [← hn9] at X9 ⊢;have nA:=nA.mono hb;have ny:=ny.mono hb;have hE:=hE.mono hb;have rA:=rA.below hb;have rO:=rO.below hb;have hbr:=bu hbr hb;have hvr:=hvr.mono hb;have hvb:=hvb.mono hb;have FB:=FB.mono hb;have hbw:=bu hbw hb;clear hb;clear hn9;refine wp_region_use (wx:=wv) [(fun _ v => v=.agg #[.bool ng1,.slice ao1 n1 cap1,.bool nh1,.slice ap1 m1 caq1]),(fun _ v => v=.agg #[.slice aA p.A.length cA,.slice aB p.B.length cB,.slice (some ⟨bb,offb,none⟩) p.C.length cC]),(fun _ v => v=.int .i64 k),(fun W v => ∃ ao cap,v=.slice ao (colR p.rA k).length cap∧UQ W ao ((colR p.rA k).map some)),(fun _ v => v=.pointer (some ⟨g2,5,none⟩)),(fun _ v => v=.slice ay y.length cy),(fun _ v => v=.pointer (some ⟨g,2,none⟩)),(fun _ v => v=.slice (some ⟨bb,offb,none⟩) p.C.length cC),(fun _ v => v=.int .i64 k),(fun _ v => v=.pointer (some ⟨bb,offb + k * 4,none⟩)),(fun _ v => v=.agg #[.bool ng2,.slice ao2 n2 cap2,.bool nh2,.slice ap2 m2 caq2]),(fun _ v => v=.bool (fitB r ke c)),(fun _ v => v=.bool (!(fitB r ke c)))] [none,none,none,none,none,none,none,none,none,none,none,none,none] [true,true,true,false,true,true,true,true,true,true,true,true,true] [some 48,some 49,some 50,some 51,some 52,some 53,some 54,some 55,some 56,some 57,some 58,some 59,some 60] [48,49,50,51,52,53,54,55,56,57,58,59,60] 0 0 (fun _ _ => True) (by decide) (by kernel_rfl) (by kernel_rfl) (by kernel_rfl) (by kernel_rfl) (of_decide_eq_true (by kernel_rfl)) (by kernel_rfl) (by kernel_rfl) (trivial) (fun _ _ _ h _ => h) br ⟨sV _,sV _,sV _,fun _ _ _ ⟨a,c,e,h⟩ hb => ⟨a,c,e,h.mono hb⟩,sV _,sV _,sV _,sV _,sV _,sV _,sV _,sV _,sV _,trivial⟩ ⟨fun _ => cV _,fun _ => cV _,fun _ => cV _,(fun h => absurd h (by decide)),fun _ => cV _,fun _ => cV _,fun _ => cV _,fun _ => cV _,fun _ => cV _,fun _ => cV _,fun _ => cV _,fun _ => cV _,fun _ => cV _,trivial⟩ ⟨?s0,?s1,?s2,?s3,?s4,?s5,?s6,?s7,?s8,?s9,?s10,?s11,?s12,trivial⟩ ?he
      case s0 =>
       rintro T W hb hp hA K hK;have hp:=hp rfl;obtain ⟨d0,d1,d2,d3,_,_,_,_⟩:=X9.mono hb;simp only [ovr,Act.put,List.setIfInBounds_toArray,List.set_cons_zero,List.set_cons_succ] at hK ⊢;have HK:=hii hK;clear hK hA;refine wO rfl (by rfl) ?_;go_simp;exact HK.out _ _ ⟨hb,fun _ => br⟩ rfl
      case s1 =>
       rintro T W hb - hA K hK;obtain ⟨x0,x1,x2⟩:=(rA.below hb).n3;simp only [ovr,Act.put,List.setIfInBounds_toArray,List.set_cons_zero,List.set_cons_succ] at hK ⊢;have HK:=hii hK;clear hK hA;refine wO rfl (by rfl) ?_;go_simp;exact HK.out _ _ ⟨hb,fun _ => br⟩ rfl
      case s2 | s4 | s6 | s8 =>
       rintro T W hb - hA K hK;simp only [ovr,Act.put,List.setIfInBounds_toArray,List.set_cons_zero,List.set_cons_succ] at hK ⊢;have HK:=hii hK;clear hK hA;refine wO rfl (by rfl) ?_;go_simp;exact HK.out _ _ ⟨hb,fun _ => br⟩ rfl
      case s3 =>
       rintro T W hb - hA K hK;have e1:T 49=.agg #[.slice aA p.A.length cA,.slice aB p.B.length cB,.slice (some ⟨bb,offb,none⟩) p.C.length cC]:=hA.1 (by decide);have e2:T 50=.int .i64 k:=hA.2.1 (by decide);simp only [ovr,Act.put,List.setIfInBounds_toArray,List.set_cons_zero,List.set_cons_succ,e1,e2] at hK ⊢;have HK:=hii hK;clear hK hA;refine wO rfl (by rfl) ?_;go_simp;have hC:=dcolumn_any p.rA k aA aB (some ⟨bb,offb,none⟩) cA p.B.length cB p.C.length cC W (by rw [rA_len]; exact hmA) (nA.mono hb) HJ.out;rw [rA_len] at hC;(with_reducible refine hC.mono ?_);rintro e w1 ⟨⟨ao,cap,rfl,hU⟩,hb1⟩
       try dsimp only
       exact HK.out _ _ ⟨bu hb hb1,fun _ => hb1⟩ (⟨ao,cap,rfl,hU⟩)
      case s5 =>
       rintro T W hb - hA K hK;have e4:T 52=.pointer (some ⟨g2,5,none⟩):=hA.1 (by decide);obtain ⟨y0,y1,y2,y3,y4,y5⟩:=(rO.below hb).n6;simp only [ovr,Act.put,List.setIfInBounds_toArray,List.set_cons_zero,List.set_cons_succ,e4] at hK ⊢;have HK:=hii hK;clear hK hA;refine wO rfl (by rfl) ?_;go_simp;exact HK.out _ _ ⟨hb,fun _ => br⟩ rfl
      case s7 =>
       rintro T W hb - hA K hK;have e6:T 54=.pointer (some ⟨g,2,none⟩):=hA.1 (by decide);obtain ⟨x0,x1,x2⟩:=(rA.below hb).n3;simp only [ovr,Act.put,List.setIfInBounds_toArray,List.set_cons_zero,List.set_cons_succ,e6] at hK ⊢;have HK:=hii hK;clear hK hA;refine wO rfl (by rfl) ?_;go_simp;exact HK.out _ _ ⟨hb,fun _ => br⟩ rfl
      case s9 =>
       rintro T W hb - hA K hK;have e7:T 55=.slice (some ⟨bb,offb,none⟩) p.C.length cC:=hA.1 (by decide);have e8:T 56=.int .i64 k:=hA.2.1 (by decide);simp only [ovr,Act.put,List.setIfInBounds_toArray,List.set_cons_zero,List.set_cons_succ,e7,e8] at hK ⊢;have HK:=hii hK;clear hK hA;refine wO rfl (by rfl) ?_;go_simp;exact HK.out _ _ ⟨hb,fun _ => br⟩ rfl
      case s10 =>
       rintro T W hb - hA K hK;have e9:T 57=.pointer (some ⟨bb,offb + k * 4,none⟩):=hA.1 (by decide);obtain ⟨f0,f1,f2,f3,_,_,_,_⟩:=FB.mono hb;simp only [ovr,Act.put,List.setIfInBounds_toArray,List.set_cons_zero,List.set_cons_succ,e9] at hK ⊢;have HK:=hii hK;clear hK hA;refine wO rfl (by rfl) ?_;go_simp;exact HK.out _ _ ⟨hb,fun _ => br⟩ rfl
      case s11 =>
       rintro T W hb - hA K hK;have e0:T 48=.agg #[.bool ng1,.slice ao1 n1 cap1,.bool nh1,.slice ap1 m1 caq1]:=hA.1 (by decide);have r3:((fun W v => ∃ ao cap,v=.slice ao (colR p.rA k).length cap∧UQ W ao ((colR p.rA k).map some)):World→Value→Prop) W (T 51):=hA.2.1 (by decide);have e5:T 53=.slice ay y.length cy:=hA.2.2.1 (by decide);have e10:T 58=.agg #[.bool ng2,.slice ao2 n2 cap2,.bool nh2,.slice ap2 m2 caq2]:=hA.2.2.2.1 (by decide);obtain ⟨aok,capk,e3,hUk⟩:=r3;simp only [ovr,Act.put,List.setIfInBounds_toArray,List.set_cons_zero,List.set_cons_succ,e0,e5,e10,e3] at hK ⊢;have HK:=hii hK;clear hK hA;refine wO rfl (by rfl) ?_;go_simp;(with_reducible refine (dfits_any (colR p.rA k) (valsQ y) b r ke c _ _ aok ay capk cy _ _ W (hii rfl) Hny hcl HKL hUk (ny.mono hb) (hvr.mono hb) (hvb.mono hb) HAG (hE.mono hb)).mono ?_);rintro e w1 ⟨rfl,hb1⟩
       try dsimp only
       exact HK.out _ _ ⟨bu hb hb1,fun _ => hb1⟩ rfl
      case s12 =>
       rintro T W hb - hA K hK;have e11:T 59=.bool (fitB r ke c):=hA.1 (by decide);simp only [ovr,Act.put,List.setIfInBounds_toArray,List.set_cons_zero,List.set_cons_succ,e11] at hK ⊢;have HK:=hii hK;clear hK hA;refine wO rfl (by rfl) ?_;go_simp;exact HK.out _ _ ⟨hb,fun _ => br⟩ rfl
      case he =>
       rintro T W hb hA;have f1:T 60=.bool (!(fitB r ke c)):=hA.of 12 (by decide) (by decide);simp only [ovr,List.setIfInBounds_toArray,List.set_cons_zero,List.set_cons_succ,f1];have hE:=hE.mono hb;have hbr:=bu hbr hb;have rA:=rA.below hb;have hbw:=bu hbw hb;clear hb;clear hA f1;obtain ⟨wz,rfl⟩:∃ wz:World,wz=W:=⟨_,rfl⟩;obtain ⟨ft,h_ft⟩:∃ ft,ft=fitB r ke c:=⟨_,rfl⟩;have H_ft:=hii h_ft;clear h_ft;rw [← H_ft.out]
       cases ft with
       | false =>
        have Hno:Hid (¬ fitO (fL (valsQ x) k) (colR p.rA k) (valsQ y) (fL p.rC k)):=hii (by rw [HFI.out,← H_ft.out]; decide);go_wp2;go_ret;exact ⟨by rw [H_R.out,slack_col hlt Hno.out]; rfl,hbw⟩
       | true =>
        have Hyes:Hid (fitO (fL (valsQ x) k) (colR p.rA k) (valsQ y) (fL p.rC k)):=hii (HFI.out.2 H_ft.out.symm);go_wp2;go_roundw
        case rel =>
         refine ⟨k + 1,by omega,by go_num,hii fun j hj => ?_,hE,hbr⟩
         by_cases hjk:j=k
         ·subst hjk; exact Hyes.out
         ·exact HM.out j (by omega)
        case measure => simp [intOf]; omega
     ·obtain rfl:k=p.C.length:=by omega
      have hln:x.length=p.C.length:=Hx.out;rw [hln];obtain ⟨x0,x1,x2⟩:=rA.n3;obtain ⟨y0,y1,y2,y3,y4,y5⟩:=rO.n6;go_wp2;go_ret;exact ⟨by rw [H_R.out,slack_yes Hc.out HN.out HM.out]; rfl,hbw⟩
theorem dzero_ok (w:World) (hE:Env w) :
  Calls Tryz.prog 35 #[] w fun e w' => GotR w' 0 e∧Below w.heap.size w w':=by
 have hbw:=Below.refl w.heap.size w;go_enter Tryz.func35,Tryz.ntmps35;go_upto_region 1 with fail;have X0:=Box4.new w (.bool false) (.slice none 0 0) (.bool false) (.slice none 0 0) 26;have hb:=bA w (.cells #[.bool false,.slice none 0 0,.bool false,.slice none 0 0] 26);generalize w.alloc (.cells #[.bool false,.slice none 0 0,.bool false,.slice none 0 0] 26)=v1 at *;have hE:=hE.mono hb;have hbw:=bu hbw hb;clear hb;go_wp2_with fail;(with_reducible refine (of_any 1 (by decide) (by decide) v1 hE).mono ?_);rintro e v2 ⟨⟨ng1,ao1,n1,cap1,rfl,HV1⟩,hb⟩;have X0:=X0.mono hb;have hbw:=bu hbw hb;clear hb;obtain ⟨x0a,x0b,x0c,x0d,_,_,_,_⟩:=id X0;go_wp2;refine bodyPost_ret (v:=.agg #[.bool false,.slice none 0 0,.bool ng1,.slice ao1 n1 cap1]) (by simp [results,Tryz.results35,go_sem,x0a,x0b,x0c,x0d]) rfl ⟨⟨false,none,0,0,ng1,ao1,n1,cap1,rfl,hii ((IntV.zero _).put4B X0 (.bool false) (.slice none 0 0) (.bool ng1) (.slice ao1 n1 cap1)),hii (HV1.out.put4B X0 (.bool false) (.slice none 0 0) (.bool ng1) (.slice ao1 n1 cap1))⟩,Below.put4 hbw (by omega) (.bool false) (.slice none 0 0) (.bool ng1) (.slice ao1 n1 cap1)⟩
open Classical in
noncomputable def unbB (p:Prg) (ray:List Qo):Bool:=decide (UnbP p ray)
section
variable {p : Prg} {x : List Qo}
open Classical in
theorem unb_no (h:¬ UnbP p x):unbB p x=false:=by unfold unbB; exact decide_eq_false h
open Classical in
theorem unb_yes (h:UnbP p x):unbB p x=true:=by unfold unbB; exact decide_eq_true h
theorem unb_row {k ke:Nat} {a:List Rat} {c:Int} (hk:k < p.B.length) (ha:p.rA.getD k []=a) (hg:agn a (valsQ x) 0=(ke,c)) (h:¬ (ke=0∧c≤0)):unbB p x=false :=
 unb_no fun hu => by
  have:=hu.2.2.2.2.1 k hk;rw [ha,hg] at this;exact h this
theorem unb_end {ke:Nat} {c:Int} (h1:p.err=0) (h2:x.length=p.C.length) (h3:badQ x=false) (h4:(valsQ x).any negR=false)
  (h5:∀ i,i < p.B.length→(agn (p.rA.getD i []) (valsQ x) 0).1=0∧(agn (p.rA.getD i []) (valsQ x) 0).2≤0) (hg:agn (valsQ p.C) (valsQ x) 0=(ke,c)):unbB p x=(decide ((ke:Int)=0) && decide (0 < c)):=by
 have hg:agn p.rC (valsQ x) 0=(ke,c):=hg
 by_cases hh:(ke:Int)=0∧0 < c
 ·rw [decide_eq_true hh.1,decide_eq_true hh.2];exact unb_yes ⟨h1,h2,h3,h4,h5,by rw [hg]; simpa using hh.1,by rw [hg]; exact hh.2⟩
 ·rw [unb_no fun hu => hh (by
   have a:=hu.2.2.2.2.2;rw [hg] at a;exact ⟨by simpa using a.1,a.2⟩)]
  symm
  rw [Bool.eq_false_iff];intro ht;simp only [Bool.and_eq_true,decide_eq_true_eq] at ht;exact hh ht
end
theorem GotR.rat {w:World} {r:Rat} {e:Ending} (h:GotR w r e):∃ ng ao n cap nh ap m caq,e=.returned (.agg #[.bool ng,.slice ao n cap,.bool nh,.slice ap m caq])∧RatV w (.agg #[.bool ng,.slice ao n cap,.bool nh,.slice ap m caq]) r:=by
 obtain ⟨ng,ao,n,cap,nh,ap,m,caq,e,h1,h2⟩:=h;exact ⟨ng,ao,n,cap,nh,ap,m,caq,e,ng,ao,n,cap,nh,ap,m,caq,rfl,h1.out,h2.out⟩
theorem Unb_any (p:Prg) (x:List Qo) (vp:Value) (ax:Option Addr) (cx:Nat) (w:World) (h:PrgV w vp p) (hxl:x.length≤1000000000) (ux:UQ w ax x) (hE:Env w) :
  Calls Tryz.prog 18 #[vp,.slice ax x.length cx] w fun e w' => e=.returned (.bool (unbB p x))∧Below w.heap.size w w':=by
 obtain ⟨aA,cA,aB,cB,aC,cC,rfl,uA,uB,uC⟩:=h;obtain ⟨R,hR⟩:∃ R,R=unbB p x:=⟨_,rfl⟩;rw [← hR];have H_R:=hii hR;clear hR;go_enter Tryz.func18,Tryz.ntmps18;go_upto_region 1 with fail;have hb:=bA w (.cells #[.slice aA p.A.length cA,.slice aB p.B.length cB,.slice aC p.C.length cC] 42);have rA:Row (w.alloc (.cells #[.slice aA p.A.length cA,.slice aB p.B.length cB,.slice aC p.C.length cC] 42)) w.heap.size 42 [.slice aA p.A.length cA,.slice aB p.B.length cB,.slice aC p.C.length cC]:=heap_alloc_new _ _;obtain ⟨g,hg⟩:∃ g,g=w.heap.size:=⟨_,rfl⟩;rw [← hg] at rA ⊢;clear hg;generalize w.alloc (.cells #[.slice aA p.A.length cA,.slice aB p.B.length cB,.slice aC p.C.length cC] 42)=w1 at *;have uA:=uA.mono hb;have uB:=uB.mono hb;have uC:=uC.mono hb;have ux:=ux.mono hb;have hE:=hE.mono hb;have hbw:=hb;clear hb;obtain ⟨x0,x1,x2⟩:=rA.n3;obtain ⟨E,h_E⟩:∃ E,E=p.err:=⟨_,rfl⟩;have H_E:=hii h_E;clear h_E;have HV:=hii (sValid_any p _ w1 ⟨aA,cA,aB,cB,aC,cC,rfl,uA,uB,uC⟩ hE);rw [← H_E.out] at HV;go_wp2_with fail;(with_reducible refine (HV.out).mono ?_);rintro e w2 ⟨rfl,hb⟩;have uA:=uA.mono hb;have uB:=uB.mono hb;have uC:=uC.mono hb;have ux:=ux.mono hb;have hE:=hE.mono hb;have rA:=rA.below hb;have hbw:=bu hbw hb;clear hb;clear HV x0 x1 x2
 by_cases hz:E ≠ 0
 ·have g1:((E:Int) != 0)=true:=by rw [bne_iff_ne]; omega
  have Hz:=hii hz;clear hz;go_wp2;go_ret;exact ⟨by rw [H_R.out,unb_no (fun hu => Hz.out (by rw [H_E.out]; exact hu.1))]; rfl,hbw⟩
 ·have He:Hid (p.err=0):=hii (by rw [← H_E.out]; omega);obtain rfl:E=0:=by omega
  clear hz;obtain ⟨x0,x1,x2⟩:=rA.n3
  by_cases h1:x.length ≠ p.C.length
  ·have g1:((x.length:Int) != (p.C.length:Int))=true:=by rw [bne_iff_ne]; omega
   go_wp2;go_ret;exact ⟨by rw [H_R.out,unb_no (fun hu => h1 hu.2.1)]; rfl,hbw⟩
  ·have hx:x.length=p.C.length:=by omega
   have g1:((x.length:Int) != (p.C.length:Int))=false:=by rw [bne_eq_false_iff_eq]; omega
   have Hx:=hii hx;clear hx h1;obtain ⟨bx,h_bx⟩:∃ bx,bx=badQ x:=⟨_,rfl⟩;have H_bx:=hii h_bx;clear h_bx;have HW:=hii (wrong_list (cx:=cx) hxl ux hE);rw [← H_bx.out] at HW;go_wp2_with fail;(with_reducible refine (HW.out).mono ?_);rintro e w3 ⟨rfl,hb⟩;have uA:=uA.mono hb;have uB:=uB.mono hb;have uC:=uC.mono hb;have ux:=ux.mono hb;have hE:=hE.mono hb;have rA:=rA.below hb;have hbw:=bu hbw hb;clear hb;clear HW x0 x1 x2
   cases bx with
   | true =>
    go_wp2;go_ret;exact ⟨by rw [H_R.out,unb_no (fun hu => by have:=hu.2.2.1; rw [← H_bx.out] at this; cases this)]; rfl,hbw⟩
   | false =>
    have nx:=ux.vals H_bx.out.symm;have hvl:(valsQ x).length≤1000000000:=by rw [vals_length]; exact hxl
    obtain ⟨bn,h_bn⟩:∃ bn,bn=(valsQ x).any negR:=⟨_,rfl⟩;have H_bn:=hii h_bn;clear h_bn;have hW:=neg_list (cx:=cx) hvl nx hE;rw [vals_length,← H_bn.out] at hW;have HW:=hii hW;clear hW;go_wp2_with fail;(with_reducible refine (HW.out).mono ?_);rintro e w4 ⟨rfl,hb⟩;have uA:=uA.mono hb;have uB:=uB.mono hb;have uC:=uC.mono hb;have hE:=hE.mono hb;have rA:=rA.below hb;have nx:=nx.mono hb;have hbw:=bu hbw hb;clear hb;clear HW g1
    cases bn with
    | true =>
     go_wp2;go_ret;exact ⟨by rw [H_R.out,unb_no (fun hu => by have:=hu.2.2.2.1; rw [← H_bn.out] at this; cases this)]; rfl,hbw⟩
    | false =>
     have HF:=hii (err_fit He.out);obtain ⟨z4,_⟩:=err_zero He.out;obtain ⟨nA,nB,nC⟩:=prg_num He.out uA uB uC;have hmB:p.B.length≤14:=by omega
     have hmC:p.C.length≤400:=by omega
     have HAB:Hid (p.A.length=p.B.length):=hii (by omega);clear z4 nB uA uB uC;obtain ⟨wl,rfl⟩:∃ wl:World,wl=w4:=⟨_,rfl⟩;obtain ⟨x0,x1,x2⟩:=rA.n3;go_wp2_with fail;clear x0 x1 x2;go_loopw [33] (fun s wr => ∃ k:Nat,k≤p.B.length∧s=.int .i64 k∧Hid (∀ j,j < k→(agn (p.rA.getD j []) (valsQ x) 0).1=0∧(agn (p.rA.getD j []) (valsQ x) 0).2≤0)∧Env wr∧Below wl.heap.size wl wr) (fun s _ => p.B.length - (intOf s).toNat)
     case atStart => exact ⟨0,Nat.zero_le _,rfl,hii (fun j hj => by omega),hE,br⟩
     case round =>
      clear hE;obtain ⟨k,hk,rfl,HN,hE,hbr⟩:=hrel;have hbw:=bu hbw hbr;have rA:=rA.below hbr;have nA:=nA.mono hbr;have nC:=nC.mono hbr;have nx:=nx.mono hbr;have Hnx:Hid (x.length=(valsQ x).length):=hii (vals_length _).symm
      by_cases hlt:k < p.B.length
      ·have hlA:k < p.rA.length:=by rw [rA_len,HAB.out]; exact hlt
       obtain ⟨a,ha0⟩:∃ x,p.rA[k]?=some x:=⟨p.rA[k],gE hlA⟩;obtain ⟨b0,off0,ar,cr,ea,hc,uR⟩:=nA k (a.map some) (by simp [ha0]);rw [List.length_map] at hc;subst ea;have hal:a.length=p.C.length:=by have:=HF.out.cols a (List.mem_of_getElem? ha0); rw [this,rC_len]
       obtain ⟨ke,c,hag⟩:∃ ke c,agn a (valsQ x) 0=(ke,c):=⟨_,_,rfl⟩;have HAG:=hii hag;have HGD:=hii (getD_of (d:=[]) ha0);have hal2:a.length≤1000000000:=by omega
       have HAL:Hid (a.length=(valsQ x).length):=hii (by rw [vals_length,hal,Hx.out]);have HKA:k < p.A.length:=by rw [HAB.out]; exact hlt
       clear ha0 hag hal hlA;obtain ⟨x0,x1,x2⟩:=rA.n3;go_wp2_with fail;(with_reducible refine (dzero_ok wr hE).mono ?_);rintro e wz ⟨hz,hb⟩;obtain ⟨ng1,ao1,n1,cap1,nh1,ap1,m1,caq1,rfl,hv0⟩:=hz.rat;clear hz;have nx:=nx.mono hb;have rA:=rA.below hb;have hE:=hE.mono hb;have uR:=uR.mono hb;have hbr:=bu hbr hb;have hbw:=bu hbw hb;clear hb;clear x0 x1 x2;go_wp2_with fail;have hG:=dsum_any a (valsQ x) 0 ke c ar ax cr cx _ wz hal2 HAL.out uR nx hv0 HAG hE;rw [← Hnx.out] at hG;have HG:=hii hG;clear hG;(with_reducible refine (HG.out).mono ?_);rintro e w3 ⟨rfl,hb⟩;have rA:=rA.below hb;have hE:=hE.mono hb;have hbr:=bu hbr hb;have hbw:=bu hbw hb;clear hb;clear HG
       by_cases hke:(ke:Int)=0
       ·obtain rfl:ke=0:=by omega
        clear hke
        by_cases hcz:0 < c
        ·have Hcz:=hii hcz;go_wp2;go_ret;exact ⟨by rw [H_R.out,unb_row hlt HGD.out HAG.out (fun hu => absurd hu.2 (by have:=Hcz.out; omega))]; rfl,hbw⟩
        ·have Hcz:=hii hcz;have Hyes:Hid ((agn (p.rA.getD k []) (valsQ x) 0).1=0∧(agn (p.rA.getD k []) (valsQ x) 0).2≤0):=hii (by rw [HGD.out,HAG.out]; exact ⟨rfl,by have:=Hcz.out; omega⟩);go_wp2;go_roundw
         case rel =>
          refine ⟨k + 1,by omega,by go_num,hii fun j hj => ?_,hE,hbr⟩
          by_cases hjk:j=k
          ·subst hjk; exact Hyes.out
          ·exact HN.out j (by omega)
         case measure => simp [intOf]; omega
       ·have g1:((ke:Int) != 0)=true:=by simpa using hke
        have Hke:=hii hke;clear hke;go_wp2;go_ret;exact ⟨by rw [H_R.out,unb_row hlt HGD.out HAG.out (fun hu => absurd hu.1 (by have:=Hke.out; omega))]; rfl,hbw⟩
      ·obtain rfl:k=p.B.length:=by omega
       rw [HAB.out] at rA ⊢;have hcl:(valsQ p.C).length≤1000000000:=by rw [vals_length]; omega
       have HCL:Hid ((valsQ p.C).length=(valsQ x).length):=hii (by rw [vals_length,vals_length,Hx.out]);have HCn:Hid (p.C.length=(valsQ p.C).length):=hii (vals_length _).symm;obtain ⟨ke,c,hag⟩:∃ ke c,agn (valsQ p.C) (valsQ x) 0=(ke,c):=⟨_,_,rfl⟩;have HAG:=hii hag;clear hag;obtain ⟨x0,x1,x2⟩:=rA.n3;go_upto_region 10 with fail;clear x0 x1 x2;refine wp_region_use (wx:=wr) [(fun _ v => v=.pointer (some ⟨g,2,none⟩)),(fun _ v => v=.slice aC p.C.length cC),(fun _ v => v=.slice ax x.length cx),(fun W v => ∃ ng ao n cap nh ap m caq,v=.agg #[.bool ng,.slice ao n cap,.bool nh,.slice ap m caq]∧RatV W (.agg #[.bool ng,.slice ao n cap,.bool nh,.slice ap m caq]) 0),(fun _ v => v=.tuple #[.int .i64 c,.int .i64 ke]),(fun _ v => v=.tuple #[.int .i64 c,.int .i64 ke]),(fun _ v => v=.int .i64 c),(fun _ v => v=.int .i64 ke),(fun _ v => v=.int .i64 c),(fun _ v => v=.int .i64 ke)] [none,none,none,none,none,none,none,none,none,none] [true,true,true,false,true,true,true,true,true,true] [some 52,some 53,some 54,some 55,some 56,some 51,some 57,some 58,some 9,some 10] [52,53,54,55,56,51,57,58,9,10] 0 0 (fun _ _ => True) (by decide) (by kernel_rfl) (by kernel_rfl) (by kernel_rfl) (by kernel_rfl) (of_decide_eq_true (by kernel_rfl)) (by kernel_rfl) (by kernel_rfl) (trivial) (fun _ _ _ h _ => h) br ⟨sV _,sV _,sV _,fun _ _ _ ⟨a1,a2,a3,a4,a5,a6,a7,a8,e,h⟩ hb => ⟨a1,a2,a3,a4,a5,a6,a7,a8,e,h.mono hb⟩,sV _,sV _,sV _,sV _,sV _,sV _,trivial⟩ ⟨fun _ => cV _,fun _ => cV _,fun _ => cV _,(fun h => absurd h (by decide)),fun _ => cV _,fun _ => cV _,fun _ => cV _,fun _ => cV _,fun _ => cV _,fun _ => cV _,trivial⟩ ⟨?s0,?s1,?s2,?s3,?s4,?s5,?s6,?s7,?s8,?s9,trivial⟩ ?he
       case s0 =>
        rintro T W hb hp hA K hK;have hp:=hp rfl;simp only [ovr,Act.put,List.setIfInBounds_toArray,List.set_cons_zero,List.set_cons_succ] at hK ⊢;have HK:=hii hK;clear hK hA;refine wO rfl (by rfl) ?_;go_simp;exact HK.out _ _ ⟨hb,fun _ => br⟩ rfl
       case s1 =>
        rintro T W hb - hA K hK;have e0:T 52=.pointer (some ⟨g,2,none⟩):=hA.1 (by decide);obtain ⟨x0,x1,x2⟩:=(rA.below hb).n3;simp only [ovr,Act.put,List.setIfInBounds_toArray,List.set_cons_zero,List.set_cons_succ,e0] at hK ⊢;have HK:=hii hK;clear hK hA;refine wO rfl (by rfl) ?_;go_simp;exact HK.out _ _ ⟨hb,fun _ => br⟩ rfl
       case s2 =>
        rintro T W hb - hA K hK;simp only [ovr,Act.put,List.setIfInBounds_toArray,List.set_cons_zero,List.set_cons_succ] at hK ⊢;have HK:=hii hK;clear hK hA;refine wO rfl (by rfl) ?_;go_simp;exact HK.out _ _ ⟨hb,fun _ => br⟩ rfl
       case s3 =>
        rintro T W hb - hA K hK;simp only [ovr,Act.put,List.setIfInBounds_toArray,List.set_cons_zero,List.set_cons_succ] at hK ⊢;have HK:=hii hK;clear hK hA;refine wO rfl (by rfl) ?_;go_simp;(with_reducible refine (dzero_ok W (hE.mono hb)).mono ?_);rintro e w1 ⟨hz,hb1⟩;obtain ⟨ng1,ao1,n1,cap1,nh1,ap1,m1,caq1,rfl,hv0⟩:=hz.rat
        try dsimp only
        exact HK.out _ _ ⟨bu hb hb1,fun _ => hb1⟩ (⟨ng1,ao1,n1,cap1,nh1,ap1,m1,caq1,rfl,hv0⟩)
       case s4 =>
        rintro T W hb - hA K hK;have e1:T 53=.slice aC p.C.length cC:=hA.1 (by decide);have e2:T 54=.slice ax x.length cx:=hA.2.1 (by decide);have r3:((fun W v => ∃ ng ao n cap nh ap m caq,v=.agg #[.bool ng,.slice ao n cap,.bool nh,.slice ap m caq]∧RatV W (.agg #[.bool ng,.slice ao n cap,.bool nh,.slice ap m caq]) 0):World→Value→Prop) W (T 55):=hA.2.2.1 (by decide);obtain ⟨ng1,ao1,n1,cap1,nh1,ap1,m1,caq1,e3,hv0⟩:=r3;simp only [ovr,Act.put,List.setIfInBounds_toArray,List.set_cons_zero,List.set_cons_succ,e1,e2,e3] at hK ⊢;have HK:=hii hK;clear hK hA;refine wO rfl (by rfl) ?_;go_simp;have hG:=dsum_any (valsQ p.C) (valsQ x) 0 ke c aC ax cC cx _ W hcl HCL.out (nC.mono hb) (nx.mono hb) hv0 HAG (hE.mono hb);rw [← Hnx.out,← HCn.out] at hG;(with_reducible refine hG.mono ?_);rintro e w1 ⟨rfl,hb1⟩
        try dsimp only
        exact HK.out _ _ ⟨bu hb hb1,fun _ => hb1⟩ rfl
       case s5 =>
        rintro T W hb - hA K hK;have e4:T 56=.tuple #[.int .i64 c,.int .i64 ke]:=hA.1 (by decide);simp only [ovr,Act.put,List.setIfInBounds_toArray,List.set_cons_zero,List.set_cons_succ,e4] at hK ⊢;have HK:=hii hK;clear hK hA;refine wO rfl (by rfl) ?_;go_simp;exact HK.out _ _ ⟨hb,fun _ => br⟩ rfl
       case s6 | s7 =>
        rintro T W hb - hA K hK;have e5:T 51=.tuple #[.int .i64 c,.int .i64 ke]:=hA.1 (by decide);simp only [ovr,Act.put,List.setIfInBounds_toArray,List.set_cons_zero,List.set_cons_succ,e5] at hK ⊢;have HK:=hii hK;clear hK hA;refine wO rfl (by rfl) ?_;go_simp;exact HK.out _ _ ⟨hb,fun _ => br⟩ rfl
       case s8 =>
        rintro T W hb - hA K hK;have e6:T 57=.int .i64 c:=hA.1 (by decide);simp only [ovr,Act.put,List.setIfInBounds_toArray,List.set_cons_zero,List.set_cons_succ,e6] at hK ⊢;have HK:=hii hK;clear hK hA;refine wO rfl (by rfl) ?_;go_simp;exact HK.out _ _ ⟨hb,fun _ => br⟩ rfl
       case s9 =>
        rintro T W hb - hA K hK;have e7:T 58=.int .i64 ke:=hA.1 (by decide);simp only [ovr,Act.put,List.setIfInBounds_toArray,List.set_cons_zero,List.set_cons_succ,e7] at hK ⊢;have HK:=hii hK;clear hK hA;refine wO rfl (by rfl) ?_;go_simp;exact HK.out _ _ ⟨hb,fun _ => br⟩ rfl
       case he =>
        rintro T W hb hA;have f1:T 9=.int .i64 c:=hA.of 8 (by decide) (by decide);have f2:T 10=.int .i64 ke:=hA.of 9 (by decide) (by decide);simp only [ovr,List.setIfInBounds_toArray,List.set_cons_zero,List.set_cons_succ,f1,f2];have hbw:=bu hbw hb;clear hA f1 f2 hb;have HFR:Hid (R=(decide ((ke:Int)=0) && decide (0 < c))):=hii (by rw [H_R.out,unb_end He.out Hx.out H_bx.out.symm H_bn.out.symm HN.out HAG.out]);clear HN HAG HCL HCn hcl Hx H_bx H_bn;obtain ⟨wz,rfl⟩:∃ wz:World,wz=W:=⟨_,rfl⟩;go_wp2
        all_goals go_ret
        all_goals exact ⟨by rw [HFR.out]; clear HFR; simp_all,hbw⟩
end Go.Proofs.YtaedmaifkfhpfaaGreatDoor
