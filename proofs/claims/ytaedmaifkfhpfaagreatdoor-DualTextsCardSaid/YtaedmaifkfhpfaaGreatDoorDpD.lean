/-
  The statement DualParse.
-/
import Derived.Test.YtaedmaifkfhpfaaGreatDoorDpC
import Derived.Test.YtaedmaifkfhpfaaGreatDoorDuAB
set_option linter.unusedVariables false
set_option linter.unusedSimpArgs false
set_option maxRecDepth 100000
set_option maxHeartbeats 25600000
namespace Go.Proofs.YtaedmaifkfhpfaaGreatDoor
open Go.RowKit
theorem uq_nil (w:World):UQ w none (([]:List Rat).map some):=fun i o h => by simp at h
theorem rsame_ok (l:List Rat) (hl:l.length≤1000000) (aa ab:Option Addr) (ca cb:Nat) (w:World) (ua:UQ w aa (l.map some)) (ub:UQ w ab (l.map some)) (hE:Env w) :
  Calls Tryz.prog 26 #[.slice aa l.length ca,.slice ab l.length cb] w fun e w' => e=.returned (.bool true)∧Below w.heap.size w w':=by
 have hbw:=Below.refl w.heap.size w;go_enter Tryz.func26,Tryz.ntmps26;go_wp2_with fail;go_loopw [5] (fun s wr => ∃ k:Nat,k≤l.length∧s=.int .i64 (k:Nat)∧Below w.heap.size w wr) (fun s _ => l.length - (intOf s).toNat)
 case atStart => exact ⟨0,Nat.zero_le _,rfl,hbw⟩
 case round =>
  clear hbw;obtain ⟨k,hk,rfl,hbr⟩:=hrel
  by_cases hlt:k < l.length
  ·obtain ⟨r,hr⟩:∃ r,l[k]?=some r:=⟨l[k],gE hlt⟩;obtain ⟨b1,off1,ng1,ao1,n1,cap1,nh1,ap1,m1,caq1,e1,FA,hva⟩:=(ua.mono hbr) k (some r) (by rw [List.getElem?_map,hr]; rfl);obtain ⟨b2,off2,ng2,ao2,n2,cap2,nh2,ap2,m2,caq2,e2,FB,hvb⟩:=(ub.mono hbr) k (some r) (by rw [List.getElem?_map,hr]; rfl);have hva:RatV wr _ r:=hva;have hvb:RatV wr _ r:=hvb;have hEr:=hE.mono hbr;subst e1;subst e2;clear hr;have hxk:(k:Int) < (l.length:Int):=by omega
   go_upto_region 6 with fail;refine wp_region_vals (wx:=wr) [(fun _ v => v=.slice (some ⟨b1,off1,none⟩) l.length ca),(fun _ v => v=.int .i64 (k:Nat)),(fun _ v => v=.pointer (some ⟨b1,off1 + k * 4,none⟩)),(fun _ v => v=.agg #[.bool ng1,.slice ao1 n1 cap1,.bool nh1,.slice ap1 m1 caq1]),(fun _ v => v=.slice (some ⟨b2,off2,none⟩) l.length cb),(fun _ v => v=.int .i64 (k:Nat)),(fun _ v => v=.pointer (some ⟨b2,off2 + k * 4,none⟩)),(fun _ v => v=.agg #[.bool ng2,.slice ao2 n2 cap2,.bool nh2,.slice ap2 m2 caq2]),(fun _ v => v=.bool true),(fun _ v => v=.bool false)] [17,18,19,20,21,22,23,24,25,26] (by kernel_rfl) (by kernel_rfl) (by kernel_rfl) (of_decide_eq_true (by kernel_rfl)) br ⟨sV _,sV _,sV _,sV _,sV _,sV _,sV _,sV _,sV _,sV _,trivial⟩ ⟨?s0,?s1,?s2,?s3,?s4,?s5,?s6,?s7,?s8,?s9,trivial⟩ ?he
   case s0 | s1 | s4 | s5 =>
    rintro T W hb hA K hK;simp only [ovr,Act.put,List.setIfInBounds_toArray,List.set_cons_zero,List.set_cons_succ] at hK ⊢;have HK:=hii hK;clear hK hA;refine wO rfl (by rfl) ?_;go_simp;exact HK.out _ _ br (rfl)
   case s2 =>
    rintro T W hb hA K hK;have e0:T 17=.slice (some ⟨b1,off1,none⟩) l.length ca:=hA.1;have e1:T 18=.int .i64 (k:Nat):=hA.2.1;simp only [ovr,Act.put,List.setIfInBounds_toArray,List.set_cons_zero,List.set_cons_succ,e0,e1] at hK ⊢;have HK:=hii hK;clear hK hA;refine wO rfl (by rfl) ?_;go_simp;exact HK.out _ _ br (rfl)
   case s3 =>
    rintro T W hb hA K hK;have e2:T 19=.pointer (some ⟨b1,off1 + k * 4,none⟩):=hA.1;simp only [ovr,Act.put,List.setIfInBounds_toArray,List.set_cons_zero,List.set_cons_succ,e2] at hK ⊢;have HK:=hii hK;clear hK hA;obtain ⟨f0,f1,f2,f3,_,_,_,_⟩:=FA.mono hb;refine wO rfl (by rfl) ?_;go_simp;exact HK.out _ _ br (rfl)
   case s6 =>
    rintro T W hb hA K hK;have e4:T 21=.slice (some ⟨b2,off2,none⟩) l.length cb:=hA.1;have e5:T 22=.int .i64 (k:Nat):=hA.2.1;simp only [ovr,Act.put,List.setIfInBounds_toArray,List.set_cons_zero,List.set_cons_succ,e4,e5] at hK ⊢;have HK:=hii hK;clear hK hA;refine wO rfl (by rfl) ?_;go_simp;exact HK.out _ _ br (rfl)
   case s7 =>
    rintro T W hb hA K hK;have e6:T 23=.pointer (some ⟨b2,off2 + k * 4,none⟩):=hA.1;simp only [ovr,Act.put,List.setIfInBounds_toArray,List.set_cons_zero,List.set_cons_succ,e6] at hK ⊢;have HK:=hii hK;clear hK hA;obtain ⟨f0,f1,f2,f3,_,_,_,_⟩:=FB.mono hb;refine wO rfl (by rfl) ?_;go_simp;exact HK.out _ _ br (rfl)
   case s8 =>
    rintro T W hb hA K hK;have e3:T 20=.agg #[.bool ng1,.slice ao1 n1 cap1,.bool nh1,.slice ap1 m1 caq1]:=hA.1;have e7:T 24=.agg #[.bool ng2,.slice ao2 n2 cap2,.bool nh2,.slice ap2 m2 caq2]:=hA.2.1;simp only [ovr,Act.put,List.setIfInBounds_toArray,List.set_cons_zero,List.set_cons_succ,e3,e7] at hK ⊢;have HK:=hii hK;clear hK hA;refine wO rfl (by rfl) ?_;go_simp;(with_reducible refine (eqQ_ok _ _ r W (hva.mono hb) (hvb.mono hb) (hEr.mono hb)).mono ?_);rintro e w1 ⟨rfl,hb1⟩
    try dsimp only
    exact HK.out _ _ hb1 (rfl)
   case s9 =>
    rintro T W hb hA K hK;have e8:T 25=.bool true:=hA.1;simp only [ovr,Act.put,List.setIfInBounds_toArray,List.set_cons_zero,List.set_cons_succ,e8] at hK ⊢;have HK:=hii hK;clear hK hA;refine wO rfl (by rfl) ?_;go_simp;exact HK.out _ _ br (rfl)
   case he =>
    rintro T W hb hA;have f9:T 26=.bool false:=hA.at 9 (by decide);simp only [ovr,List.setIfInBounds_toArray,List.set_cons_zero,List.set_cons_succ,f9];have hb3:=bu hbr hb;clear hA f9;go_wp2;go_roundw
    case rel => exact ⟨k + 1,by omega,by go_num,hb3⟩
    case measure => simp [intOf]; omega
  ·go_wp2;go_ret;exact ⟨rfl,hbr⟩
theorem rsame_nil (w:World) (hE:Env w):Calls Tryz.prog 26 #[.slice none 0 0,.slice none 0 0] w fun e w' => e=.returned (.bool true)∧Below w.heap.size w w' :=
 rsame_ok [] (by decide) none none 0 0 w (uq_nil _) (uq_nil _) hE
theorem same14_yes {ng1:Bool} {ao1:Option Addr} {n1 cap1:Nat} {nh1:Bool} {ap1:Option Addr} {m1 caq1:Nat} {ng2:Bool} {ao2:Option Addr} {n2 cap2:Nat} {nh2:Bool} {ap2:Option Addr} {m2 caq2:Nat} (r:Rat) (x y:List Rat) (hx:x.length≤1000000) (hy:y.length≤1000000) (ax ay az au:Option Addr) (cax cay caz cau:Nat) (w:World) (hE:Env w) (hv1:RatV w (.agg #[.bool ng1,.slice ao1 n1 cap1,.bool nh1,.slice ap1 m1 caq1]) r) (hv2:RatV w (.agg #[.bool ng2,.slice ao2 n2 cap2,.bool nh2,.slice ap2 m2 caq2]) r) (ux1:UQ w ax (x.map some)) (ux2:UQ w az (x.map some)) (uy1:UQ w ay (y.map some)) (uy2:UQ w au (y.map some)) :
  Calls Tryz.prog 9 #[.agg #[.bool ng1,.slice ao1 n1 cap1,.bool nh1,.slice ap1 m1 caq1,.slice ax x.length cax,.slice ay y.length cay],.agg #[.bool ng2,.slice ao2 n2 cap2,.bool nh2,.slice ap2 m2 caq2,.slice az x.length caz,.slice au y.length cau]] w fun e w' => e=.returned (.bool true)∧Below w.heap.size w w':=by
 go_enter Tryz.func9,Tryz.ntmps9;go_upto_region 1 with fail;obtain ⟨wx,hwx,r1,r2,hb⟩:=two_rows w 30 30 [.bool ng1,.slice ao1 n1 cap1,.bool nh1,.slice ap1 m1 caq1,.slice ax x.length cax,.slice ay y.length cay] [.bool ng2,.slice ao2 n2 cap2,.bool nh2,.slice ap2 m2 caq2,.slice az x.length caz,.slice au y.length cau];simp only [List.toArray] at hwx;rw [← hwx];clear hwx;obtain ⟨g2,hg2⟩:∃ g2,g2=w.heap.size + 1:=⟨_,rfl⟩;rw [← hg2] at r2 ⊢;clear hg2;obtain ⟨g1,hg1⟩:∃ g1,g1=w.heap.size:=⟨_,rfl⟩;rw [← hg1] at r1 ⊢;clear hg1;obtain ⟨w0,rfl⟩:∃ w0:World,w0=wx:=⟨_,rfl⟩;have hbw:=hb;have hE:=hE.mono hb;have hv1:=hv1.mono hb;have hv2:=hv2.mono hb;have ux1:=ux1.mono hb;have ux2:=ux2.mono hb;have uy1:=uy1.mono hb;have uy2:=uy2.mono hb;clear hb;obtain ⟨x0,x1,x2,x3,x4,x5⟩:=r1.n6;obtain ⟨y0,y1,y2,y3,y4,y5⟩:=r2.n6;go_wp2_with fail;(with_reducible refine (eqQ_ok _ _ r w0 hv1 hv2 hE).mono ?_);rintro e w1 ⟨rfl,hb⟩;have hE:=hE.mono hb;have ux1:=ux1.mono hb;have ux2:=ux2.mono hb;have uy1:=uy1.mono hb;have uy2:=uy2.mono hb;have r1:=r1.below hb;have r2:=r2.below hb;have hbw:=bu hbw hb;clear hb x0 x1 x2 x3 x4 x5 y0 y1 y2 y3 y4 y5;obtain ⟨x0,x1,x2,x3,x4,x5⟩:=r1.n6;obtain ⟨y0,y1,y2,y3,y4,y5⟩:=r2.n6;go_wp2_with fail;(with_reducible refine (rsame_ok x hx ax az cax caz w1 ux1 ux2 hE).mono ?_);rintro e w2 ⟨rfl,hb⟩;have hE:=hE.mono hb;have uy1:=uy1.mono hb;have uy2:=uy2.mono hb;have r1:=r1.below hb;have r2:=r2.below hb;have hbw:=bu hbw hb;clear hb x0 x1 x2 x3 x4 x5 y0 y1 y2 y3 y4 y5;obtain ⟨x0,x1,x2,x3,x4,x5⟩:=r1.n6;obtain ⟨y0,y1,y2,y3,y4,y5⟩:=r2.n6;go_wp2_with fail;(with_reducible refine (rsame_ok y hy ay au cay cau w2 uy1 uy2 hE).mono ?_);rintro e w3 ⟨rfl,hb⟩;have hbw:=bu hbw hb;clear hb x0 x1 x2 x3 x4 x5 y0 y1 y2 y3 y4 y5;go_wp2;go_ret;exact ⟨rfl,hbw⟩
theorem same14_none  (w:World) (hE:Env w) :
  Calls Tryz.prog 9 #[.agg #[.bool false,.slice none 0 0,.bool false,.slice none 0 0,.slice none 0 0,.slice none 0 0],.agg #[.bool false,.slice none 0 0,.bool false,.slice none 0 0,.slice none 0 0,.slice none 0 0]] w fun e w' => e=.returned (.bool true)∧Below w.heap.size w w':=by
 go_enter Tryz.func9,Tryz.ntmps9;go_upto_region 1 with fail;obtain ⟨wx,hwx,r1,r2,hb⟩:=two_rows w 30 30 [.bool false,.slice none 0 0,.bool false,.slice none 0 0,.slice none 0 0,.slice none 0 0] [.bool false,.slice none 0 0,.bool false,.slice none 0 0,.slice none 0 0,.slice none 0 0];simp only [List.toArray] at hwx;rw [← hwx];clear hwx;obtain ⟨g2,hg2⟩:∃ g2,g2=w.heap.size + 1:=⟨_,rfl⟩;rw [← hg2] at r2 ⊢;clear hg2;obtain ⟨g1,hg1⟩:∃ g1,g1=w.heap.size:=⟨_,rfl⟩;rw [← hg1] at r1 ⊢;clear hg1;obtain ⟨w0,rfl⟩:∃ w0:World,w0=wx:=⟨_,rfl⟩;have hbw:=hb;have hE:=hE.mono hb;clear hb;obtain ⟨x0,x1,x2,x3,x4,x5⟩:=r1.n6;obtain ⟨y0,y1,y2,y3,y4,y5⟩:=r2.n6;go_wp2_with fail;(with_reducible refine (eqQ_zero w0 hE).mono ?_);rintro e w1 ⟨rfl,hb⟩;have hE:=hE.mono hb;have r1:=r1.below hb;have r2:=r2.below hb;have hbw:=bu hbw hb;clear hb x0 x1 x2 x3 x4 x5 y0 y1 y2 y3 y4 y5;obtain ⟨x0,x1,x2,x3,x4,x5⟩:=r1.n6;obtain ⟨y0,y1,y2,y3,y4,y5⟩:=r2.n6;go_wp2_with fail;(with_reducible refine (rsame_nil w1 hE).mono ?_);rintro e w2 ⟨rfl,hb⟩;have hE:=hE.mono hb;have r1:=r1.below hb;have r2:=r2.below hb;have hbw:=bu hbw hb;clear hb x0 x1 x2 x3 x4 x5 y0 y1 y2 y3 y4 y5;obtain ⟨x0,x1,x2,x3,x4,x5⟩:=r1.n6;obtain ⟨y0,y1,y2,y3,y4,y5⟩:=r2.n6;go_wp2_with fail;(with_reducible refine (rsame_nil w2 hE).mono ?_);rintro e w3 ⟨rfl,hb⟩;have hbw:=bu hbw hb;clear hb x0 x1 x2 x3 x4 x5 y0 y1 y2 y3 y4 y5;go_wp2;go_ret;exact ⟨rfl,hbw⟩
theorem parse14_both (s:List UInt8) (hs:s.length≤65536):∃ O,(∀ v x y,O=some (v,x,y)→x.length≤100000∧y.length≤100000)∧(∀ w,Env w→MaxV w→Calls Tryz.prog 8 #[.string ⟨s.toArray⟩] w fun e w' => OptR O w' e∧Below w.heap.size w w')∧∀ w,Env w→MaxV w→Calls Tryz.prog 10 #[.string ⟨s.toArray⟩] w fun e w' => OptR O w' e∧Below w.heap.size w w':=by
 by_cases h3:(Lib.split s [59,32]).length=3
 ·obtain ⟨p0,p1,p2,hsp⟩:∃ p0 p1 p2,Lib.split s [59,32]=[p0,p1,p2]:=by
   match hm:Lib.split s [59,32],h3 with
   | [a,b,c],_ => exact ⟨a,b,c,rfl⟩
  have hlen:=Sp.split_len s [59,32] (by decide);have hp:∀ p∈[p0,p1,p2],p.length≤65536:=fun p hp => by
   have:=hlen p (by rw [hsp]; exact hp);omega
  have l0:=hp p0 (by simp);have l1:=hp p1 (by simp);have l2:=hp p2 (by simp);obtain ⟨o,k1,k2⟩:=pt_both p0 (by omega);have lists:∀ p:List UInt8,p.length≤65536→∃ X,(∀ l,X=some l→l.length≤100000)∧PLs 25 p X∧PLs 29 p X:=fun p hp => by
   have hw:=Sp.split_len p [32] (by decide);have hc:=Sp.split_num p [32] (by decide);obtain ⟨os,j1,j2⟩:=pts_both (Lib.split p [32]) fun t ht => by have:=hw t ht; omega
   refine ⟨lstO p os,fun l hl => ?_,dlist_any p os (by omega) (hii (by omega)) (hii fun _ => j1),rfrac_any p os (by omega) (hii (by omega)) (hii fun _ => j2)⟩;have hj:=j1.1;unfold lstO at hl
   split at hl
   ·cases hl; simp
   ·split at hl
    ·cases hl
    ·cases hl; rw [List.length_map]; omega
  obtain ⟨X,a0,a1,a2⟩:=lists p1 l1;obtain ⟨Y,b0,b1,b2⟩:=lists p2 l2;refine ⟨optO o X Y,fun v x y h => ?_,dparse_ok s p0 p1 p2 o X Y hs (hii hsp) (hii k1) (hii a1) (hii b1),rparse_ok s p0 p1 p2 o X Y hs (hii hsp) (hii k2) (hii a2) (hii b2)⟩
  cases o with
  | none => cases h
  | some r =>
   cases X with
   | none => cases h
   | some xs =>
    cases Y with
    | none => cases h
    | some ys =>
     cases h
     exact ⟨a0 _ rfl,b0 _ rfl⟩
 ·exact ⟨none,(fun v x y h => by cases h),dparse_no s hs (hii h3),rparse_no s hs (hii h3)⟩
theorem dualParse_low (s:List UInt8) (w:World) (hs:s.length≤1000) (hE:Env w) (hM:MaxV w) :
  Calls Tryz.prog 4 #[.string ⟨s.toArray⟩] w fun e w' => e=.returned (.bool true)∧Below w.heap.size w w':=by
 obtain ⟨O,h0,h1,h2⟩:=parse14_both s (by omega);have H0:=hii h0;have H1:=hii h1;have H2:=hii h2;clear h0 h1 h2;have hll:decide ((1000:Int) < (s.length:Int))=false:=decide_eq_false (by omega);have hbw:=Below.refl w.heap.size w;go_enter Tryz.func4,Tryz.ntmps4;go_wp2_with fail;(with_reducible refine (awake14 w hE).mono ?_);rintro e w1 ⟨rfl,hb⟩;have hM:=hM.mono hb;have hE:=hE.mono hb;have hbw:=bu hbw hb;clear hb;go_wp2_with fail;(with_reducible refine (H1.out w1 hE hM).mono ?_);rintro e w2 ⟨hR,hb⟩;have hM:=hM.mono hb;have hE:=hE.mono hb;have hbw:=bu hbw hb;clear hb H1;rcases hR with ⟨hO,rfl⟩ | ⟨r,x,y,hO,ng1,ao1,n1,cap1,nh1,ap1,m1,caq1,ax,cax,ay,cay,rfl,hv1,ux1,uy1⟩
 ·go_upto_region 4 with fail;have hb:=bA w2 (.cells #[.bool false,.slice none 0 0,.bool false,.slice none 0 0,.slice none 0 0,.slice none 0 0] 30);have r1:Row (w2.alloc (.cells #[.bool false,.slice none 0 0,.bool false,.slice none 0 0,.slice none 0 0,.slice none 0 0] 30)) w2.heap.size 30 [.bool false,.slice none 0 0,.bool false,.slice none 0 0,.slice none 0 0,.slice none 0 0]:=heap_alloc_new _ _;obtain ⟨g1,hg⟩:∃ g1,g1=w2.heap.size:=⟨_,rfl⟩;rw [← hg] at r1 ⊢;clear hg;generalize w2.alloc (.cells #[.bool false,.slice none 0 0,.bool false,.slice none 0 0,.slice none 0 0,.slice none 0 0] 30)=w3 at *;have hM:=hM.mono hb;have hE:=hE.mono hb;have hbw:=bu hbw hb;clear hb;go_wp2_with fail;(with_reducible refine (H2.out w3 hE hM).mono ?_);rintro e w4 ⟨hR,hb⟩;have r1:=r1.below hb;have hE:=hE.mono hb;have hbw:=bu hbw hb;clear hb H2 hM;rcases hR with ⟨hO2,rfl⟩ | ⟨r,x,y,hO2,_⟩
  rotate_left
  ·rw [hO] at hO2; cases hO2
  clear hO hO2;go_upto_region 5 with fail;have hb:=bA w4 (.cells #[.bool false,.slice none 0 0,.bool false,.slice none 0 0,.slice none 0 0,.slice none 0 0] 30);have r2:Row (w4.alloc (.cells #[.bool false,.slice none 0 0,.bool false,.slice none 0 0,.slice none 0 0,.slice none 0 0] 30)) w4.heap.size 30 [.bool false,.slice none 0 0,.bool false,.slice none 0 0,.slice none 0 0,.slice none 0 0]:=heap_alloc_new _ _;obtain ⟨g3,hg⟩:∃ g3,g3=w4.heap.size:=⟨_,rfl⟩;rw [← hg] at r2 ⊢;clear hg;generalize w4.alloc (.cells #[.bool false,.slice none 0 0,.bool false,.slice none 0 0,.slice none 0 0,.slice none 0 0] 30)=w5 at *;have r1:=r1.below hb;have hE:=hE.mono hb;have hbw:=bu hbw hb;clear hb;obtain ⟨x0,x1,x2,x3,x4,x5⟩:=r1.n6;obtain ⟨y0,y1,y2,y3,y4,y5⟩:=r2.n6;go_wp2_with fail;(with_reducible refine (same14_none w5 hE).mono ?_);rintro e w6 ⟨rfl,hb⟩;have hbw:=bu hbw hb;clear hb x0 x1 x2 x3 x4 x5 y0 y1 y2 y3 y4 y5;go_wp2;go_ret;exact ⟨rfl,hbw⟩
 ·have HLx:=hii (H0.out r x y hO);go_upto_region 4 with fail;have hb:=bA w2 (.cells #[.bool ng1,.slice ao1 n1 cap1,.bool nh1,.slice ap1 m1 caq1,.slice ax x.length cax,.slice ay y.length cay] 30);have r1:Row (w2.alloc (.cells #[.bool ng1,.slice ao1 n1 cap1,.bool nh1,.slice ap1 m1 caq1,.slice ax x.length cax,.slice ay y.length cay] 30)) w2.heap.size 30 [.bool ng1,.slice ao1 n1 cap1,.bool nh1,.slice ap1 m1 caq1,.slice ax x.length cax,.slice ay y.length cay]:=heap_alloc_new _ _;obtain ⟨g1,hg⟩:∃ g1,g1=w2.heap.size:=⟨_,rfl⟩;rw [← hg] at r1 ⊢;clear hg;generalize w2.alloc (.cells #[.bool ng1,.slice ao1 n1 cap1,.bool nh1,.slice ap1 m1 caq1,.slice ax x.length cax,.slice ay y.length cay] 30)=w3 at *;have hv1:=hv1.mono hb;have ux1:=ux1.mono hb;have uy1:=uy1.mono hb;have hM:=hM.mono hb;have hE:=hE.mono hb;have hbw:=bu hbw hb;clear hb;go_wp2_with fail;(with_reducible refine (H2.out w3 hE hM).mono ?_);rintro e w4 ⟨hR,hb⟩;have hv1:=hv1.mono hb;have ux1:=ux1.mono hb;have uy1:=uy1.mono hb;have r1:=r1.below hb;have hE:=hE.mono hb;have hbw:=bu hbw hb;clear hb H2 hM;rcases hR with ⟨hO2,rfl⟩ | ⟨r',x',y',hO2,ng2,ao2,n2,cap2,nh2,ap2,m2,caq2,az,caz,au,cau,rfl,hv2,ux2,uy2⟩
  ·rw [hO] at hO2; cases hO2
  rw [hO] at hO2;simp only [Option.some.injEq,Prod.mk.injEq] at hO2;obtain ⟨rfl,rfl,rfl⟩:=hO2;clear hO;go_upto_region 5 with fail;have hb:=bA w4 (.cells #[.bool ng2,.slice ao2 n2 cap2,.bool nh2,.slice ap2 m2 caq2,.slice az x.length caz,.slice au y.length cau] 30);have r2:Row (w4.alloc (.cells #[.bool ng2,.slice ao2 n2 cap2,.bool nh2,.slice ap2 m2 caq2,.slice az x.length caz,.slice au y.length cau] 30)) w4.heap.size 30 [.bool ng2,.slice ao2 n2 cap2,.bool nh2,.slice ap2 m2 caq2,.slice az x.length caz,.slice au y.length cau]:=heap_alloc_new _ _;obtain ⟨g3,hg⟩:∃ g3,g3=w4.heap.size:=⟨_,rfl⟩;rw [← hg] at r2 ⊢;clear hg;generalize w4.alloc (.cells #[.bool ng2,.slice ao2 n2 cap2,.bool nh2,.slice ap2 m2 caq2,.slice az x.length caz,.slice au y.length cau] 30)=w5 at *;have hv1:=hv1.mono hb;have ux1:=ux1.mono hb;have uy1:=uy1.mono hb;have hv2:=hv2.mono hb;have ux2:=ux2.mono hb;have uy2:=uy2.mono hb;have r1:=r1.below hb;have hE:=hE.mono hb;have hbw:=bu hbw hb;clear hb;obtain ⟨x0,x1,x2,x3,x4,x5⟩:=r1.n6;obtain ⟨y0,y1,y2,y3,y4,y5⟩:=r2.n6;go_wp2_with fail;(with_reducible refine (same14_yes r x y (by have:=HLx.out; omega) (by have:=HLx.out; omega) ax ay az au cax cay caz cau w5 hE hv1 hv2 ux1 ux2 uy1 uy2).mono ?_);rintro e w6 ⟨rfl,hb⟩;have hbw:=bu hbw hb;clear hb x0 x1 x2 x3 x4 x5 y0 y1 y2 y3 y4 y5;go_wp2;go_ret;exact ⟨rfl,hbw⟩
theorem dualParse_high (s:List UInt8) (w:World) (hs:1000 < s.length) (hE:Env w) (hM:MaxV w) (_hs2:s.length≤9223372036854775807) :
  Calls Tryz.prog 4 #[.string ⟨s.toArray⟩] w fun e w' => e=.returned (.bool true)∧Below w.heap.size w w':=by
 have hll:decide ((1000:Int) < (s.length:Int))=true:=decide_eq_true (by omega);have hbw:=Below.refl w.heap.size w;go_enter Tryz.func4,Tryz.ntmps4;go_wp2_with fail;(with_reducible refine (awake14 w hE).mono ?_);rintro e w1 ⟨rfl,hb⟩;have hE:=hE.mono hb;have hbw:=bu hbw hb;clear hb;go_wp2_with fail;(with_reducible refine (awake14 w1 hE).mono ?_);rintro e w2 ⟨rfl,hb⟩;have hbw:=bu hbw hb;clear hb;go_wp2;go_ret;exact ⟨rfl,hbw⟩
theorem dualParse_law (s:ByteArray) (hs:s.size≤maxLen) (w:World) (hE:Env w) (hM:MaxV w) :
  Calls Tryz.prog 4 #[.string s] w fun e w' => e=.returned (.bool true)∧Below w.heap.size w w':=by
 obtain ⟨l,rfl⟩:∃ l:List UInt8,s=⟨l.toArray⟩:=⟨s.data.toList,by cases s; simp⟩;have hl:l.length≤9223372036854775807:=by unfold maxLen at hs; simpa [ByteArray.size] using hs
 by_cases h:1000 < l.length
 ·exact dualParse_high l w h hE hM hl
 ·exact dualParse_low l w (by omega) hE hM
end Go.Proofs.YtaedmaifkfhpfaaGreatDoor
