/-
  Ways through the switch of Made.
-/
import Derived.Test.YtagdgdacecibiaaGreatDoorA14
import Derived.Deep.CutBlock
set_option linter.unusedVariables false
set_option linter.unusedSimpArgs false
set_option maxRecDepth 100000
set_option maxHeartbeats 25600000
namespace Go.Proofs.YtagdgdacecibiaaGreatDoor
open Go.RowKit
theorem arm14_6:Arm14 (·=6):=by
 intro K Q' wb wd g g7 g8 g20 n m sp ap vv hf X Y aV aB9 aC9 aXv aYv cV nB9 cB9 cC9 cXv cYv RW lb lc LX LY v y0 y1 y2 y3 y4 y5 y6 y8 ng1 nh1 ng2 nh2 ao1 ap1 ao2 ap2 n1 cap1 m1 caq1 n2 cap2 m2 caq2
 iterate 299 (intro _)
 intro hE rD hbs hB hM V1 V2 r20 Hgl8 Hn Hm hap hvv HVB HLX HLY hXr hYr HLx5 HLy5 HSD0 hK s6;have s6:sp=6:=s6;have HLx10:Hid (LX.length≤10):=hii (Nat.le_trans HLx5.out (by decide));have HLy10:Hid (LY.length≤10):=hii (Nat.le_trans HLy5.out (by decide));have hn5:=Hn.out;have hm5:=Hm.out;have HK0:=hii hK;clear hK
 conv => arg 2; whnf
 go_cut [] from 215 (fun wx => Spoilt g7 g8 (.slice aV m cV) (.slice aB9 nB9 cB9) (.slice aC9 n cC9) ⟨RW,lb,lc⟩ wx∧Below wb.heap.size wb wx)
 case rest =>
  clear hB hM hbs V1 V2 r20;exact HK0.out _ _ _ _ _ _ _ _ _ _ _ _ _ _ _ _ _ _ _ _ _ _ _ _ _ _ _ _ _ _ _ _ _ _ _ _ _ _ _ _ _ _ _ _ _ _ _ _ _ _ _ _ _ _ _ _ _ _ _ _ _ _ _ _ _ _ _ _ _ _ _ _ _ _ _ _ _ _ _ _ _ _ _ _ _ _ _ _ _ _ _ _ _ hcut.1 hcut.2
 case first =>
  clear HK0;subst s6;have hll:LY.length=m:=by rw [HLY.out]; simp
  obtain ⟨bZ,eZ,hbZ⟩:=(hM.own (p:=((.slice aYv m cYv),LY)) (by simp)).addr (by show 0 < LY.length; omega);subst eZ;have HbZ:=hii hbZ;obtain ⟨kk,hkk⟩:∃ kk:Nat,(kk:Int)=ap % (m:Int):=⟨(ap % (m:Int)).toNat,Int.toNat_of_nonneg (Int.emod_nonneg _ (by omega))⟩;have hkn:kk < m:=by have:=Int.emod_lt_of_pos ap (show (0:Int) < m by omega); omega
  have Hkk:=hii hkk;have Hkl:Hid (kk < LY.length):=hii (by omega);clear hkk hbZ hll;go_upto_region 53 with fail;have HWo:∀ W,Kept (fun b => b=bZ) wd W→Below wb.heap.size wb W:=fun W hk => hbs.trans (hk.below (fun b e => by have:=HbZ.out; have:=Hgl8.out; omega) hbs.size)
  have HV1:RK (fun b => b=bZ) v wd (.agg #[.bool ng1,.slice ao1 n1 cap1,.bool nh1,.slice ap1 m1 caq1]):=V1.rk (hM.own (p:=((.slice (some ⟨bZ,0,none⟩) m cYv),LY)) (by simp)).noG;refine wp_region_put (wx:=wd) (fun b => b=bZ) [(fun _ v => v=.pointer (some ⟨g8,5,none⟩)),(fun _ v => v=.slice (some ⟨bZ,0,none⟩) m cYv),(fun _ v => v=.pointer (some ⟨g,7,none⟩)),(fun _ v => v=.int .u8 ap),(fun _ v => v=.int .i64 ap),(fun _ v => v=.int .i64 m),(fun _ v => v=.int .i64 (kk:Int)),(fun _ v => v=.agg #[.bool false,.slice none 0 0,.bool false,.slice none 0 0]),(fun _ v => v=.pointer (some ⟨bZ,kk * 4,none⟩)),(fun _ _ => True)] [some 283,some 284,some 285,some 286,some 287,some 288,some 289,some 290,some 291,none] [283,284,285,286,287,288,289,290,291] 9 (fun W => BX W g7 g8 [.slice aV m cV,.slice aB9 nB9 cB9,.slice aC9 n cC9] [.bool ng1,.slice ao1 n1 cap1,.bool nh1,.slice ap1 m1 caq1,.slice aXv n cXv,.slice (some ⟨bZ,0,none⟩) m cYv]∧MX W (g8 + 1) (.slice aV m cV) RW [((.slice aB9 nB9 cB9),lb),((.slice aC9 n cC9),lc),((.slice aXv n cXv),LX),((.slice (some ⟨bZ,0,none⟩) m cYv),LY)]) (fun W => BX W g7 g8 [.slice aV m cV,.slice aB9 nB9 cB9,.slice aC9 n cC9] [.bool ng1,.slice ao1 n1 cap1,.bool nh1,.slice ap1 m1 caq1,.slice aXv n cXv,.slice (some ⟨bZ,0,none⟩) m cYv]∧MX W (g8 + 1) (.slice aV m cV) RW [((.slice aB9 nB9 cB9),lb),((.slice aC9 n cC9),lc),((.slice aXv n cXv),LX),((.slice (some ⟨bZ,0,none⟩) m cYv),(LY.set kk none))]) (by decide) (by kernel_rfl) (by kernel_rfl) (by kernel_rfl) (by kernel_rfl) (of_decide_eq_true (by kernel_rfl)) ⟨hB.mono br.drew,hM.mono br.drew⟩ (fun W W' h hb => ⟨h.1.mono hb,h.2.mono hb⟩) (fun W W' h hb => ⟨h.1.mono hb,h.2.mono hb⟩) (Kept.refl _) ⟨stayK_val _ _,stayK_val _ _,stayK_val _ _,stayK_val _ _,stayK_val _ _,stayK_val _ _,stayK_val _ _,stayK_val _ _,stayK_val _ _,(fun _ _ _ h _ => h),trivial⟩ ⟨?s0,?s1,?s2,?s3,?s4,?s5,?s6,?s7,?s8,?s9,trivial⟩ ?he
  case s0 | s2 | s5 | s7 =>
   rintro T W hk hp hA K hK;have hp:=hp (.inr (by decide));simp only [ovr,Act.put,List.setIfInBounds_toArray,List.set_cons_zero,List.set_cons_succ] at hK ⊢;have HK:=hii hK;clear hK hA;refine wO rfl (by rfl) ?_;go_simp;exact HK.out _ _ ⟨fun _ => br,fun h => absurd h (by decide),Kept.refl _⟩ rfl
  case s1 =>
   rintro T W hk hp hA K hK;have hp:=hp (.inr (by decide));have e0:T 283=.pointer (some ⟨g8,5,none⟩):=hA.1;simp only [ovr,Act.put,List.setIfInBounds_toArray,List.set_cons_zero,List.set_cons_succ,e0] at hK ⊢;have HK:=hii hK;clear hK hA;obtain ⟨y0,y1,y2,y3,y4,y5⟩:=hp.1.r8.n6;refine wO rfl (by rfl) ?_;go_simp;exact HK.out _ _ ⟨fun _ => br,fun h => absurd h (by decide),Kept.refl _⟩ rfl
  case s3 =>
   rintro T W hk hp hA K hK;have hp:=hp (.inr (by decide));have e2:T 285=.pointer (some ⟨g,7,none⟩):=hA.1;simp only [ovr,Act.put,List.setIfInBounds_toArray,List.set_cons_zero,List.set_cons_succ,e2] at hK ⊢;have HK:=hii hK;clear hK hA;obtain ⟨x0,x1,x2,x3,x4,x5,x6,x7,x8⟩:=(rD.below (HWo W hk)).n9;refine wO rfl (by rfl) ?_;go_simp;exact HK.out _ _ ⟨fun _ => br,fun h => absurd h (by decide),Kept.refl _⟩ rfl
  case s4 =>
   rintro T W hk hp hA K hK;have hp:=hp (.inr (by decide));have e3:T 286=.int .u8 ap:=hA.1;simp only [ovr,Act.put,List.setIfInBounds_toArray,List.set_cons_zero,List.set_cons_succ,e3] at hK ⊢;have HK:=hii hK;clear hK hA;refine wO rfl (by rfl) ?_;go_simp;exact HK.out _ _ ⟨fun _ => br,fun h => absurd h (by decide),Kept.refl _⟩ ((congrArg (Value.int IntKind.i64) (wrap_small (by omega))))
  case s6 =>
   rintro T W hk hp hA K hK;have hp:=hp (.inr (by decide));have e4:T 287=.int .i64 ap:=hA.1;have e5:T 288=.int .i64 m:=hA.2.1;simp only [ovr,Act.put,List.setIfInBounds_toArray,List.set_cons_zero,List.set_cons_succ,e4,e5] at hK ⊢;have HK:=hii hK;clear hK hA;have hd0:(m:Int) ≠ 0:=by omega
   have hd1:((m:Int) == 0)=false:=by simpa using hd0
   have hd2:¬ (m=0):=by omega
   refine wO rfl (by rfl) ?_;go_simp;exact HK.out _ _ ⟨fun _ => br,fun h => absurd h (by decide),Kept.refl _⟩ ((congrArg (Value.int IntKind.i64) ((Int.tmod_eq_emod_of_nonneg hap.1).trans Hkk.out.symm)))
  case s8 =>
   rintro T W hk hp hA K hK;have hp:=hp (.inr (by decide));have e1:T 284=.slice (some ⟨bZ,0,none⟩) m cYv:=hA.1;have e6:T 289=.int .i64 (kk:Int):=hA.2.1;have e0:T 283=.pointer (some ⟨g8,5,none⟩):=hA.2.2.1;have e2:T 285=.pointer (some ⟨g,7,none⟩):=hA.2.2.2.2.1;have e3:T 286=.int .u8 ap:=hA.2.2.2.2.2.1;have e4:T 287=.int .i64 ap:=hA.2.2.2.2.2.2.1;have e5:T 288=.int .i64 m:=hA.2.2.2.2.2.2.2.1;have e7:T 290=.agg #[.bool false,.slice none 0 0,.bool false,.slice none 0 0]:=hA.2.2.2.2.2.2.2.2.2.1;simp only [ovr,Act.put,List.setIfInBounds_toArray,List.set_cons_zero,List.set_cons_succ,e1,e6,e0,e2,e3,e4,e5,e7] at hK ⊢;have HK:=hii hK;clear hK hA;refine wO rfl (by rfl) ?_;go_simp;exact HK.out _ _ ⟨fun _ => br,fun h => absurd h (by decide),Kept.refl _⟩ rfl
  case s9 =>
   rintro T W hk hp hA K hK;have hp:=hp (.inl rfl);have e8:T 291=.pointer (some ⟨bZ,kk * 4,none⟩):=hA.1;have e7:T 290=.agg #[.bool false,.slice none 0 0,.bool false,.slice none 0 0]:=hA.2.1;have e0:T 283=.pointer (some ⟨g8,5,none⟩):=hA.2.2.1;have e1:T 284=.slice (some ⟨bZ,0,none⟩) m cYv:=hA.2.2.2.1;have e2:T 285=.pointer (some ⟨g,7,none⟩):=hA.2.2.2.2.1;have e3:T 286=.int .u8 ap:=hA.2.2.2.2.2.1;have e4:T 287=.int .i64 ap:=hA.2.2.2.2.2.2.1;have e5:T 288=.int .i64 m:=hA.2.2.2.2.2.2.2.1;have e6:T 289=.int .i64 (kk:Int):=hA.2.2.2.2.2.2.2.2.1;simp only [ovr,Act.put,List.setIfInBounds_toArray,List.set_cons_zero,List.set_cons_succ,e8,e7,e0,e1,e2,e3,e4,e5,e6] at hK ⊢;have HK:=hii hK;clear hK hA;have hoZ:=hp.2.own (p:=((.slice (some ⟨bZ,0,none⟩) m cYv),LY)) (by simp);obtain ⟨_,_,_,_,_,_,_,_,c0,c1,c2,c3,f0,f1,f2,f3,-⟩:=hoZ.four' Hkl.out;obtain ⟨hput,hgr⟩:=hoZ.put (o:=none) Hkl.out (vq_zero W);have Hput:=hii hput;have Hgr:=hii hgr;clear hput hgr;refine wO rfl (by rfl) ?_;go_simp;exact HK.out undef _ ⟨fun h => absurd rfl h,fun _ => ⟨hp.1.grw Hgr.out (fun b e => (hoZ.lt b e).1),MX.turn (pre:=[((.slice aB9 nB9 cB9),lb),((.slice aC9 n cC9),lc),((.slice aXv n cXv),LX)]) (post:=[]) hp.2 Hgr.out Hput.out⟩,((((Kept.refl W:Kept (fun b => b=bZ) W W).setCell (p:=⟨bZ,kk * 4,none⟩) rfl _).setCell (p:=⟨bZ,kk * 4 + 1,none⟩) rfl _).setCell (p:=⟨bZ,kk * 4 + 2,none⟩) rfl _).setCell (p:=⟨bZ,kk * 4 + 3,none⟩) rfl _⟩ (trivial)
  case he =>
   rintro T W hk hR hA;have V1:=RK.at HV1 hk;have hbs:=HWo W hk;clear hB hM;obtain ⟨hB,hM⟩:=hR;simp only [ovr,List.setIfInBounds_toArray,List.set_cons_zero,List.set_cons_succ];clear hA hk HV1 HWo V2 r20;obtain ⟨wf,rfl⟩:∃ wf:World,wf=W:=⟨_,rfl⟩;go_wp2_with fail;go_meet;exact ⟨spoiltOf (val:=some v) hB hM V1 (smallSetY HSD0.out (fun r e => by cases e)) HLx10.out (lenSet HLy10.out),hbs⟩
theorem arm14_7:Arm14 (·=7):=by
 intro K Q' wb wd g g7 g8 g20 n m sp ap vv hf X Y aV aB9 aC9 aXv aYv cV nB9 cB9 cC9 cXv cYv RW lb lc LX LY v y0 y1 y2 y3 y4 y5 y6 y8 ng1 nh1 ng2 nh2 ao1 ap1 ao2 ap2 n1 cap1 m1 caq1 n2 cap2 m2 caq2
 iterate 299 (intro _)
 intro hE rD hbs hB hM V1 V2 r20 Hgl8 Hn Hm hap hvv HVB HLX HLY hXr hYr HLx5 HLy5 HSD0 hK s7;have s7:sp=7:=s7;have HLx10:Hid (LX.length≤10):=hii (Nat.le_trans HLx5.out (by decide));have HLy10:Hid (LY.length≤10):=hii (Nat.le_trans HLy5.out (by decide));have hn5:=Hn.out;have hm5:=Hm.out;have HK0:=hii hK;clear hK
 conv => arg 2; whnf
 go_cut [] from 215 (fun wx => Spoilt g7 g8 (.slice aV m cV) (.slice aB9 nB9 cB9) (.slice aC9 n cC9) ⟨RW,lb,lc⟩ wx∧Below wb.heap.size wb wx)
 case rest =>
  clear hB hM hbs V1 V2 r20;exact HK0.out _ _ _ _ _ _ _ _ _ _ _ _ _ _ _ _ _ _ _ _ _ _ _ _ _ _ _ _ _ _ _ _ _ _ _ _ _ _ _ _ _ _ _ _ _ _ _ _ _ _ _ _ _ _ _ _ _ _ _ _ _ _ _ _ _ _ _ _ _ _ _ _ _ _ _ _ _ _ _ _ _ _ _ _ _ _ _ _ _ _ _ _ _ hcut.1 hcut.2
 case first =>
  clear HK0;subst s7;have hll:LX.length=n:=by rw [HLX.out]; simp
  obtain ⟨bZ,eZ,hbZ⟩:=(hM.own (p:=((.slice aXv n cXv),LX)) (by simp)).addr (by show 0 < LX.length; omega);subst eZ;have HbZ:=hii hbZ;obtain ⟨kk,hkk⟩:∃ kk:Nat,(kk:Int)=ap % (n:Int):=⟨(ap % (n:Int)).toNat,Int.toNat_of_nonneg (Int.emod_nonneg _ (by omega))⟩;have hkn:kk < n:=by have:=Int.emod_lt_of_pos ap (show (0:Int) < n by omega); omega
  have Hkk:=hii hkk;have Hkl:Hid (kk < LX.length):=hii (by omega);clear hkk hbZ hll;go_upto_region 55 with fail;have HWo:∀ W,Kept (fun b => b=bZ) wd W→Below wb.heap.size wb W:=fun W hk => hbs.trans (hk.below (fun b e => by have:=HbZ.out; have:=Hgl8.out; omega) hbs.size)
  have HV1:RK (fun b => b=bZ) v wd (.agg #[.bool ng1,.slice ao1 n1 cap1,.bool nh1,.slice ap1 m1 caq1]):=V1.rk (hM.own (p:=((.slice (some ⟨bZ,0,none⟩) n cXv),LX)) (by simp)).noG;refine wp_region_put (wx:=wd) (fun b => b=bZ) [(fun _ v => v=.pointer (some ⟨g8,4,none⟩)),(fun _ v => v=.slice (some ⟨bZ,0,none⟩) n cXv),(fun _ v => v=.pointer (some ⟨g,7,none⟩)),(fun _ v => v=.int .u8 ap),(fun _ v => v=.int .i64 ap),(fun _ v => v=.int .i64 n),(fun _ v => v=.int .i64 (kk:Int)),(fun _ v => v=.agg #[.bool false,.slice none 0 0,.bool false,.slice none 0 0]),(fun _ v => v=.pointer (some ⟨bZ,kk * 4,none⟩)),(fun _ _ => True)] [some 294,some 295,some 296,some 297,some 298,some 299,some 300,some 301,some 302,none] [294,295,296,297,298,299,300,301,302] 9 (fun W => BX W g7 g8 [.slice aV m cV,.slice aB9 nB9 cB9,.slice aC9 n cC9] [.bool ng1,.slice ao1 n1 cap1,.bool nh1,.slice ap1 m1 caq1,.slice (some ⟨bZ,0,none⟩) n cXv,.slice aYv m cYv]∧MX W (g8 + 1) (.slice aV m cV) RW [((.slice aB9 nB9 cB9),lb),((.slice aC9 n cC9),lc),((.slice (some ⟨bZ,0,none⟩) n cXv),LX),((.slice aYv m cYv),LY)]) (fun W => BX W g7 g8 [.slice aV m cV,.slice aB9 nB9 cB9,.slice aC9 n cC9] [.bool ng1,.slice ao1 n1 cap1,.bool nh1,.slice ap1 m1 caq1,.slice (some ⟨bZ,0,none⟩) n cXv,.slice aYv m cYv]∧MX W (g8 + 1) (.slice aV m cV) RW [((.slice aB9 nB9 cB9),lb),((.slice aC9 n cC9),lc),((.slice (some ⟨bZ,0,none⟩) n cXv),(LX.set kk none)),((.slice aYv m cYv),LY)]) (by decide) (by kernel_rfl) (by kernel_rfl) (by kernel_rfl) (by kernel_rfl) (of_decide_eq_true (by kernel_rfl)) ⟨hB.mono br.drew,hM.mono br.drew⟩ (fun W W' h hb => ⟨h.1.mono hb,h.2.mono hb⟩) (fun W W' h hb => ⟨h.1.mono hb,h.2.mono hb⟩) (Kept.refl _) ⟨stayK_val _ _,stayK_val _ _,stayK_val _ _,stayK_val _ _,stayK_val _ _,stayK_val _ _,stayK_val _ _,stayK_val _ _,stayK_val _ _,(fun _ _ _ h _ => h),trivial⟩ ⟨?s0,?s1,?s2,?s3,?s4,?s5,?s6,?s7,?s8,?s9,trivial⟩ ?he
  case s0 | s2 | s5 | s7 =>
   rintro T W hk hp hA K hK;have hp:=hp (.inr (by decide));simp only [ovr,Act.put,List.setIfInBounds_toArray,List.set_cons_zero,List.set_cons_succ] at hK ⊢;have HK:=hii hK;clear hK hA;refine wO rfl (by rfl) ?_;go_simp;exact HK.out _ _ ⟨fun _ => br,fun h => absurd h (by decide),Kept.refl _⟩ rfl
  case s1 =>
   rintro T W hk hp hA K hK;have hp:=hp (.inr (by decide));have e0:T 294=.pointer (some ⟨g8,4,none⟩):=hA.1;simp only [ovr,Act.put,List.setIfInBounds_toArray,List.set_cons_zero,List.set_cons_succ,e0] at hK ⊢;have HK:=hii hK;clear hK hA;obtain ⟨y0,y1,y2,y3,y4,y5⟩:=hp.1.r8.n6;refine wO rfl (by rfl) ?_;go_simp;exact HK.out _ _ ⟨fun _ => br,fun h => absurd h (by decide),Kept.refl _⟩ rfl
  case s3 =>
   rintro T W hk hp hA K hK;have hp:=hp (.inr (by decide));have e2:T 296=.pointer (some ⟨g,7,none⟩):=hA.1;simp only [ovr,Act.put,List.setIfInBounds_toArray,List.set_cons_zero,List.set_cons_succ,e2] at hK ⊢;have HK:=hii hK;clear hK hA;obtain ⟨x0,x1,x2,x3,x4,x5,x6,x7,x8⟩:=(rD.below (HWo W hk)).n9;refine wO rfl (by rfl) ?_;go_simp;exact HK.out _ _ ⟨fun _ => br,fun h => absurd h (by decide),Kept.refl _⟩ rfl
  case s4 =>
   rintro T W hk hp hA K hK;have hp:=hp (.inr (by decide));have e3:T 297=.int .u8 ap:=hA.1;simp only [ovr,Act.put,List.setIfInBounds_toArray,List.set_cons_zero,List.set_cons_succ,e3] at hK ⊢;have HK:=hii hK;clear hK hA;refine wO rfl (by rfl) ?_;go_simp;exact HK.out _ _ ⟨fun _ => br,fun h => absurd h (by decide),Kept.refl _⟩ ((congrArg (Value.int IntKind.i64) (wrap_small (by omega))))
  case s6 =>
   rintro T W hk hp hA K hK;have hp:=hp (.inr (by decide));have e4:T 298=.int .i64 ap:=hA.1;have e5:T 299=.int .i64 n:=hA.2.1;simp only [ovr,Act.put,List.setIfInBounds_toArray,List.set_cons_zero,List.set_cons_succ,e4,e5] at hK ⊢;have HK:=hii hK;clear hK hA;have hd0:(n:Int) ≠ 0:=by omega
   have hd1:((n:Int) == 0)=false:=by simpa using hd0
   have hd2:¬ (n=0):=by omega
   refine wO rfl (by rfl) ?_;go_simp;exact HK.out _ _ ⟨fun _ => br,fun h => absurd h (by decide),Kept.refl _⟩ ((congrArg (Value.int IntKind.i64) ((Int.tmod_eq_emod_of_nonneg hap.1).trans Hkk.out.symm)))
  case s8 =>
   rintro T W hk hp hA K hK;have hp:=hp (.inr (by decide));have e1:T 295=.slice (some ⟨bZ,0,none⟩) n cXv:=hA.1;have e6:T 300=.int .i64 (kk:Int):=hA.2.1;have e0:T 294=.pointer (some ⟨g8,4,none⟩):=hA.2.2.1;have e2:T 296=.pointer (some ⟨g,7,none⟩):=hA.2.2.2.2.1;have e3:T 297=.int .u8 ap:=hA.2.2.2.2.2.1;have e4:T 298=.int .i64 ap:=hA.2.2.2.2.2.2.1;have e5:T 299=.int .i64 n:=hA.2.2.2.2.2.2.2.1;have e7:T 301=.agg #[.bool false,.slice none 0 0,.bool false,.slice none 0 0]:=hA.2.2.2.2.2.2.2.2.2.1;simp only [ovr,Act.put,List.setIfInBounds_toArray,List.set_cons_zero,List.set_cons_succ,e1,e6,e0,e2,e3,e4,e5,e7] at hK ⊢;have HK:=hii hK;clear hK hA;refine wO rfl (by rfl) ?_;go_simp;exact HK.out _ _ ⟨fun _ => br,fun h => absurd h (by decide),Kept.refl _⟩ rfl
  case s9 =>
   rintro T W hk hp hA K hK;have hp:=hp (.inl rfl);have e8:T 302=.pointer (some ⟨bZ,kk * 4,none⟩):=hA.1;have e7:T 301=.agg #[.bool false,.slice none 0 0,.bool false,.slice none 0 0]:=hA.2.1;have e0:T 294=.pointer (some ⟨g8,4,none⟩):=hA.2.2.1;have e1:T 295=.slice (some ⟨bZ,0,none⟩) n cXv:=hA.2.2.2.1;have e2:T 296=.pointer (some ⟨g,7,none⟩):=hA.2.2.2.2.1;have e3:T 297=.int .u8 ap:=hA.2.2.2.2.2.1;have e4:T 298=.int .i64 ap:=hA.2.2.2.2.2.2.1;have e5:T 299=.int .i64 n:=hA.2.2.2.2.2.2.2.1;have e6:T 300=.int .i64 (kk:Int):=hA.2.2.2.2.2.2.2.2.1;simp only [ovr,Act.put,List.setIfInBounds_toArray,List.set_cons_zero,List.set_cons_succ,e8,e7,e0,e1,e2,e3,e4,e5,e6] at hK ⊢;have HK:=hii hK;clear hK hA;have hoZ:=hp.2.own (p:=((.slice (some ⟨bZ,0,none⟩) n cXv),LX)) (by simp);obtain ⟨_,_,_,_,_,_,_,_,c0,c1,c2,c3,f0,f1,f2,f3,-⟩:=hoZ.four' Hkl.out;obtain ⟨hput,hgr⟩:=hoZ.put (o:=none) Hkl.out (vq_zero W);have Hput:=hii hput;have Hgr:=hii hgr;clear hput hgr;refine wO rfl (by rfl) ?_;go_simp;exact HK.out undef _ ⟨fun h => absurd rfl h,fun _ => ⟨hp.1.grw Hgr.out (fun b e => (hoZ.lt b e).1),MX.turn (pre:=[((.slice aB9 nB9 cB9),lb),((.slice aC9 n cC9),lc)]) (post:=[((.slice aYv m cYv),LY)]) hp.2 Hgr.out Hput.out⟩,((((Kept.refl W:Kept (fun b => b=bZ) W W).setCell (p:=⟨bZ,kk * 4,none⟩) rfl _).setCell (p:=⟨bZ,kk * 4 + 1,none⟩) rfl _).setCell (p:=⟨bZ,kk * 4 + 2,none⟩) rfl _).setCell (p:=⟨bZ,kk * 4 + 3,none⟩) rfl _⟩ (trivial)
  case he =>
   rintro T W hk hR hA;have V1:=RK.at HV1 hk;have hbs:=HWo W hk;clear hB hM;obtain ⟨hB,hM⟩:=hR;simp only [ovr,List.setIfInBounds_toArray,List.set_cons_zero,List.set_cons_succ];clear hA hk HV1 HWo V2 r20;obtain ⟨wf,rfl⟩:∃ wf:World,wf=W:=⟨_,rfl⟩;go_wp2_with fail;go_meet;exact ⟨spoiltOf (val:=some v) hB hM V1 (smallSetX HSD0.out (fun r e => by cases e)) (lenSet HLx10.out) HLy10.out,hbs⟩
theorem arm14_3:Arm14 (·=3):=by
 intro K Q' wb wd g g7 g8 g20 n m sp ap vv hf X Y aV aB9 aC9 aXv aYv cV nB9 cB9 cC9 cXv cYv RW lb lc LX LY v y0 y1 y2 y3 y4 y5 y6 y8 ng1 nh1 ng2 nh2 ao1 ap1 ao2 ap2 n1 cap1 m1 caq1 n2 cap2 m2 caq2
 iterate 299 (intro _)
 intro hE rD hbs hB hM V1 V2 r20 Hgl8 Hn Hm hap hvv HVB HLX HLY hXr hYr HLx5 HLy5 HSD0 hK s3;have s3:sp=3:=s3;have HLx10:Hid (LX.length≤10):=hii (Nat.le_trans HLx5.out (by decide));have HLy10:Hid (LY.length≤10):=hii (Nat.le_trans HLy5.out (by decide));have hn5:=Hn.out;have hm5:=Hm.out;have HK0:=hii hK;clear hK
 conv => arg 2; whnf
 go_cut [] from 215 (fun wx => Spoilt g7 g8 (.slice aV m cV) (.slice aB9 nB9 cB9) (.slice aC9 n cC9) ⟨RW,lb,lc⟩ wx∧Below wb.heap.size wb wx)
 case rest =>
  clear hB hM hbs V1 V2 r20;exact HK0.out _ _ _ _ _ _ _ _ _ _ _ _ _ _ _ _ _ _ _ _ _ _ _ _ _ _ _ _ _ _ _ _ _ _ _ _ _ _ _ _ _ _ _ _ _ _ _ _ _ _ _ _ _ _ _ _ _ _ _ _ _ _ _ _ _ _ _ _ _ _ _ _ _ _ _ _ _ _ _ _ _ _ _ _ _ _ _ _ _ _ _ _ _ hcut.1 hcut.2
 case first =>
  clear HK0;subst s3;obtain ⟨y0,y1,y2,y3,y4,y5⟩:=hB.r8.n6;obtain ⟨k0,k1,k2,k3⟩:=r20.n4;go_wp2_with fail;(with_reducible refine (rAdd_q _ _ v (((vv % 5 - 2:Int)):Rat) wd V1 V2 (hii (add_val14 HVB.out (by omega))) (hE.mono hbs)).mono ?_);rintro e we ⟨hr,hb⟩;obtain ⟨ng3,ao3,n3,cap3,nh3,ap3,m3,caq3,rfl,h1,h2⟩:=hr;have V3:=RatV.mk' h1 h2;have hB:=hB.mono hb;have hM:=hM.mono hb;have hbs:=bu hbs hb;clear h1 h2 hb y0 y1 y2 y3 y4 y5 k0 k1 k2 k3;obtain ⟨y0,y1,y2,y3,y4,y5⟩:=hB.r8.n6;have q0:=hB.r8.free 0;have q1:=hB.r8.free 1;have q2:=hB.r8.free 2;have q3:=hB.r8.free 3;go_wp2_with fail;clear y0 y1 y2 y3 y4 y5 q0 q1 q2 q3;obtain ⟨hB2,hM2,hk2⟩:=hB.val (n1:=ng3) (a1:=ao3) (l1:=n3) (c1:=cap3) (n2:=nh3) (a2:=ap3) (l2:=m3) (c2:=caq3) hM;have V3:=V3.kept hk2 (hB.r8.noG hB.n8);have hbs:Below wb.heap.size wb _:=hbs.trans (hk2.below (fun b e => by subst e; exact Hgl8.out) hbs.size);clear hB hM hk2;have hB:=hB2;have hM:=hM2;clear hB2 hM2;generalize (((we.setCell ⟨g8,0,none⟩ (.bool ng3)).setCell ⟨g8,1,none⟩ (.slice ao3 n3 cap3)).setCell ⟨g8,2,none⟩ (.bool nh3)).setCell ⟨g8,3,none⟩ (.slice ap3 m3 caq3)=wf at *;go_meet;exact ⟨spoiltOf (val:=some (v + (((vv % 5 - 2:Int)):Rat))) hB hM V3 HSD0.out HLx10.out HLy10.out,hbs⟩
theorem arm14_4:Arm14 (·=4):=by
 intro K Q' wb wd g g7 g8 g20 n m sp ap vv hf X Y aV aB9 aC9 aXv aYv cV nB9 cB9 cC9 cXv cYv RW lb lc LX LY v y0 y1 y2 y3 y4 y5 y6 y8 ng1 nh1 ng2 nh2 ao1 ap1 ao2 ap2 n1 cap1 m1 caq1 n2 cap2 m2 caq2
 iterate 299 (intro _)
 intro hE rD hbs hB hM V1 V2 r20 Hgl8 Hn Hm hap hvv HVB HLX HLY hXr hYr HLx5 HLy5 HSD0 hK s4;have s4:sp=4:=s4;have HLx10:Hid (LX.length≤10):=hii (Nat.le_trans HLx5.out (by decide));have HLy10:Hid (LY.length≤10):=hii (Nat.le_trans HLy5.out (by decide));have hn5:=Hn.out;have hm5:=Hm.out;have HK0:=hii hK;clear hK
 conv => arg 2; whnf
 go_cut [] from 215 (fun wx => Spoilt g7 g8 (.slice aV m cV) (.slice aB9 nB9 cB9) (.slice aC9 n cC9) ⟨RW,lb,lc⟩ wx∧Below wb.heap.size wb wx)
 case rest =>
  clear hB hM hbs V1 V2 r20;exact HK0.out _ _ _ _ _ _ _ _ _ _ _ _ _ _ _ _ _ _ _ _ _ _ _ _ _ _ _ _ _ _ _ _ _ _ _ _ _ _ _ _ _ _ _ _ _ _ _ _ _ _ _ _ _ _ _ _ _ _ _ _ _ _ _ _ _ _ _ _ _ _ _ _ _ _ _ _ _ _ _ _ _ _ _ _ _ _ _ _ _ _ _ _ _ hcut.1 hcut.2
 case first =>
  clear HK0;subst s4;have hll:LX.length=n:=by rw [HLX.out]; simp
  obtain ⟨bZ,eZ,hbZ⟩:=(hM.own (p:=((.slice aXv n cXv),LX)) (by simp)).addr (by show 0 < LX.length; omega);subst eZ;obtain ⟨y0,y1,y2,y3,y4,y5⟩:=hB.r8.n6;have q1:=hB.r8.free 4;have HF4:=hii (fun (aH:Option Addr) (cH:Nat) (h:(aH=(if cXv=1 then some ⟨bZ,0,none⟩ else some ⟨bZ,4,none⟩)∧cH=cXv - 1)) => spoilt4 hB hM V1 h.1 h.2 hll (by rw [HLY.out]; simp:LY.length=m) HSD0.out HLx10.out HLy10.out)
  by_cases hc1:cXv=1
  ·have HC1:=hii hc1;go_wp2_with fail;go_meet;exact ⟨HF4.out _ _ ⟨(if_pos HC1.out).symm,by have:=HC1.out; omega⟩,hbs.setCell (p:=⟨g8,4,none⟩) Hgl8.out _⟩
  ·have HC1:=hii hc1;go_wp2_with fail;go_meet;exact ⟨HF4.out _ _ ⟨(if_neg HC1.out).symm,rfl⟩,hbs.setCell (p:=⟨g8,4,none⟩) Hgl8.out _⟩
theorem arm14_5:Arm14 (·=5):=by
 intro K Q' wb wd g g7 g8 g20 n m sp ap vv hf X Y aV aB9 aC9 aXv aYv cV nB9 cB9 cC9 cXv cYv RW lb lc LX LY v y0 y1 y2 y3 y4 y5 y6 y8 ng1 nh1 ng2 nh2 ao1 ap1 ao2 ap2 n1 cap1 m1 caq1 n2 cap2 m2 caq2
 iterate 299 (intro _)
 intro hE rD hbs hB hM V1 V2 r20 Hgl8 Hn Hm hap hvv HVB HLX HLY hXr hYr HLx5 HLy5 HSD0 hK s5;have s5:sp=5:=s5;have HLx10:Hid (LX.length≤10):=hii (Nat.le_trans HLx5.out (by decide));have HLy10:Hid (LY.length≤10):=hii (Nat.le_trans HLy5.out (by decide));have hn5:=Hn.out;have hm5:=Hm.out;have HK0:=hii hK;clear hK
 conv => arg 2; whnf
 go_cut [] from 215 (fun wx => Spoilt g7 g8 (.slice aV m cV) (.slice aB9 nB9 cB9) (.slice aC9 n cC9) ⟨RW,lb,lc⟩ wx∧Below wb.heap.size wb wx)
 case rest =>
  clear hB hM hbs V1 V2 r20;exact HK0.out _ _ _ _ _ _ _ _ _ _ _ _ _ _ _ _ _ _ _ _ _ _ _ _ _ _ _ _ _ _ _ _ _ _ _ _ _ _ _ _ _ _ _ _ _ _ _ _ _ _ _ _ _ _ _ _ _ _ _ _ _ _ _ _ _ _ _ _ _ _ _ _ _ _ _ _ _ _ _ _ _ _ _ _ _ _ _ _ _ _ _ _ _ hcut.1 hcut.2
 case first =>
  clear HK0;subst s5;obtain ⟨y0,y1,y2,y3,y4,y5⟩:=hB.r8.n6;obtain ⟨k0,k1,k2,k3⟩:=r20.n4;have HL5:Hid (LY.length≤100000):=hii (by rw [HLY.out]; simp; omega);go_wp2_with (at_builtin; go_loud (refine app_ox wd wd g7 g8 rfl (.tmp 276) (.tmp 278) rfl [((.slice aB9 nB9 cB9),lb),((.slice aC9 n cC9),lc),((.slice aXv n cXv),LX)] [] rfl rfl hB hM V2 br HL5.out ?_); intro a3 n3 c3 w3 hB3 hM3 hb3 hsz3 hq3; clear y0 y1 y2 y3 y4 y5; obtain ⟨y0,y1,y2,y3,y4,y5⟩:=hB3.r8.n6; have q1:=hB3.r8.free 5);clear y0 y1 y2 y3 y4 y5 q1 k0 k1 k2 k3;have V1:=(hq3 _ _ V1).kept ((Kept.refl w3:Kept (fun b => b=g8) w3 w3).setCell (p:=⟨g8,5,none⟩) rfl (.slice a3 n3 c3)) (hB3.r8.noG hB3.n8);have hB:=hB3.set8 5 (noInt_slice a3 n3 c3);have hM:=hM3.set8 hB3 5 (.slice a3 n3 c3);have hbs:Below wb.heap.size wb (w3.setCell ⟨g8,5,none⟩ (.slice a3 n3 c3)):=(hbs.trans (hb3.mono (by have:=Hgl8.out; omega))).setCell (p:=⟨g8,5,none⟩) Hgl8.out _;clear hB3 hM3 hb3 hsz3 hq3 V2 r20;generalize w3.setCell ⟨g8,5,none⟩ (.slice a3 n3 c3)=wf at *;go_meet;exact ⟨spoiltOf (val:=some v) hB hM V1 (smallApp HSD0.out (bd_int (by omega) (by omega))) HLx10.out (lenApp HLy5.out),hbs⟩
theorem arm14_0:Arm14 (fun z => z ≠ 1∧z ≠ 2∧z ≠ 3∧z ≠ 4∧z ≠ 5∧z ≠ 6∧z ≠ 7):=by
 intro K Q' wb wd g g7 g8 g20 n m sp ap vv hf X Y aV aB9 aC9 aXv aYv cV nB9 cB9 cC9 cXv cYv RW lb lc LX LY v y0 y1 y2 y3 y4 y5 y6 y8 ng1 nh1 ng2 nh2 ao1 ap1 ao2 ap2 n1 cap1 m1 caq1 n2 cap2 m2 caq2
 iterate 299 (intro _)
 intro hE rD hbs hB hM V1 V2 r20 Hgl8 Hn Hm hap hvv HVB HLX HLY hXr hYr HLx5 HLy5 HSD0 hK hs9;obtain ⟨s1,s2,s3,s4,s5,s6,s7⟩:=hs9;have HLx10:Hid (LX.length≤10):=hii (Nat.le_trans HLx5.out (by decide));have HLy10:Hid (LY.length≤10):=hii (Nat.le_trans HLy5.out (by decide));have hn5:=Hn.out;have hm5:=Hm.out;have HK0:=hii hK;clear hK
 conv => arg 2; whnf
 go_cut [] from 215 (fun wx => Spoilt g7 g8 (.slice aV m cV) (.slice aB9 nB9 cB9) (.slice aC9 n cC9) ⟨RW,lb,lc⟩ wx∧Below wb.heap.size wb wx)
 case rest =>
  clear hB hM hbs V1 V2 r20;exact HK0.out _ _ _ _ _ _ _ _ _ _ _ _ _ _ _ _ _ _ _ _ _ _ _ _ _ _ _ _ _ _ _ _ _ _ _ _ _ _ _ _ _ _ _ _ _ _ _ _ _ _ _ _ _ _ _ _ _ _ _ _ _ _ _ _ _ _ _ _ _ _ _ _ _ _ _ _ _ _ _ _ _ _ _ _ _ _ _ _ _ _ _ _ _ hcut.1 hcut.2
 case first =>
  clear HK0;have e1:(sp == 1)=false:=by simpa using s1
  have e2:(sp == 2)=false:=by simpa using s2
  have e3:(sp == 3)=false:=by simpa using s3
  have e4:(sp == 4)=false:=by simpa using s4
  have e5:(sp == 5)=false:=by simpa using s5
  have e6:(sp == 6)=false:=by simpa using s6
  have e7:(sp == 7)=false:=by simpa using s7
  go_wp2_with fail;go_meet;exact ⟨spoiltOf (val:=some v) hB hM V1 HSD0.out HLx10.out HLy10.out,hbs⟩
end Go.Proofs.YtagdgdacecibiaaGreatDoor
