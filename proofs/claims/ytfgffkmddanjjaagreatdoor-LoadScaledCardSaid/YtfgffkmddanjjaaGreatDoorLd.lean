/-
  load: sums, comparisons.
-/
import Derived.Test.YtfgffkmddanjjaaGreatDoorLa
import Derived.Test.YtfgffkmddanjjaaGreatDoorDv
import Derived.Test.YtfgffkmddanjjaaGreatDoorFlowS
set_option linter.unusedVariables false
set_option linter.unusedSimpArgs false
set_option maxRecDepth 100000
set_option maxHeartbeats 25600000
namespace Go.Proofs.YtfgffkmddanjjaaGreatDoor
open _root_.Go.Proofs.Tryz
open Go.RowKit
def zcr (w:World) (g:Nat) (k:Int) (r:Rat):Prop:=∃ J1 ao1 n1 Y1 K1 ap1 m1 Z1,Row w g 137 [.bool J1,.slice ao1 n1 Y1,.bool K1,.slice ap1 m1 Z1,.int .i64 k]/\(k=0->zac w (qA J1 ao1 n1 Y1 K1 ap1 m1 Z1) r)
theorem zcr.mono {w w':World} {g:Nat} {k:Int} {r:Rat} (h:zcr w g k r) (hb:BH w w'):zcr w' g k r:=by
 obtain ⟨J1,ao1,n1,Y1,K1,ap1,m1,Z1,h1,h2⟩:=h;exact ⟨J1,ao1,n1,Y1,K1,ap1,m1,Z1,h1.below hb,λ hk => (h2 hk).mono hb⟩
theorem zcr.lt {w:World} {g:Nat} {k:Int} {r:Rat} (h:zcr w g k r):g < w.heap.size:=by
 obtain ⟨J1,ao1,n1,Y1,K1,ap1,m1,Z1,h1,h2⟩:=h;exact h1.lt
theorem zkK {a c:Bool} {b d:Option Addr} {n1 n2 n3 n4:Nat} {z:Int}:∀ u∈[Value.bool a,.slice b n1 n2,.bool c,.slice d n3 n4,.int .i64 z],zaI u:=by
 intro u hu;simp at hu;rcases hu with rfl | rfl | rfl | rfl | rfl <;> (intro z e; cases e)
theorem zcr.noU {w:World} {g:Nat} {k:Int} {r:Rat} (h:zcr w g k r):NoU (λ k => k=g) w:=by
 obtain ⟨J1,ao1,n1,Y1,K1,ap1,m1,Z1,h1,h2⟩:=h;exact h1.noU zkK
theorem PK.rat {k:Int} {r:Rat} {w:World} {e:Ending} (h:PK k r w e):∃ J1 ao1 n1 Y1 K1 ap1 m1 Z1,e=.returned (.tuple #[.agg #[.bool J1,.slice ao1 n1 Y1,.bool K1,.slice ap1 m1 Z1],.int .i64 k])/\(k=0->zac w (qA J1 ao1 n1 Y1 K1 ap1 m1 Z1) r):=by
 obtain ⟨n1,a1,l1,c1,n2,a2,l2,c2,e1,h1,h2,_⟩:=h;refine ⟨_,_,_,_,_,_,_,_,e1,λ hk => ?_⟩;subst hk;rw [zdF] at h1 h2;exact zac.mk' h1 h2
def zhd (g:Nat) (w:World):Prop:=∃ w0,Env w0/\w0.heap.size<=g/\BH w0 w
theorem zhd.env {g:Nat} {w:World} (h:zhd g w):Env w:=by
 obtain ⟨w0,h1,_,h3⟩:=h;exact h1.mono h3
theorem zhd.mono {g:Nat} {w w':World} (h:zhd g w) (hb:BH w w'):zhd g w':=by
 obtain ⟨w0,h1,h2,h3⟩:=h;exact ⟨w0,h1,h2,bu h3 hb⟩
theorem zhd.kept {g:Nat} {w w':World} (h:zhd g w) (hk:zaf (λ b => b=g) w w'):zhd g w':=by
 obtain ⟨w0,h1,h2,h3⟩:=h;exact ⟨w0,h1,h2,h3.trans (hk.below (λ b e => by rw [e]; exact h2) h3.size)⟩
theorem zhd.of {g:Nat} {w w':World} (h:Env w) (hg:w.heap.size<=g) (hb:BH w w'):zhd g w':=⟨w,h,hg,hb⟩
def RU (G:Nat->Prop) (r:Rat) (W:World) (v:Value):Prop:=∀ W',zaf G W W'->zac W' v r
theorem RU.stay {G:Nat->Prop} {r:Rat}:zdB G (RU G r):=λ _ _ _ h hk W' hk' => h W' (hk.trans hk')
theorem RU.rat {G:Nat->Prop} {r:Rat} {W:World} {v:Value} (h:RU G r W v):zac W v r:=h W (zaf.refl W)
theorem zac.ru {G:Nat->Prop} {r:Rat} {W:World} {v:Value} (h:zac W v r) (hn:NoU G W):RU G r W v:=λ _ hk => h.keptU hk hn
def TU (G:Nat->Prop) (k:Int) (r:Rat) (W:World) (v:Value):Prop:=∃ J1 ao1 n1 Y1 K1 ap1 m1 Z1,v=.tuple #[.agg #[.bool J1,.slice ao1 n1 Y1,.bool K1,.slice ap1 m1 Z1],.int .i64 k]/\(k=0->RU G r W (.agg #[.bool J1,.slice ao1 n1 Y1,.bool K1,.slice ap1 m1 Z1]))
theorem TU.stay {G:Nat->Prop} {k:Int} {r:Rat}:zdB G (TU G k r):=λ W W' v h hk => by
 obtain ⟨J1,ao1,n1,Y1,K1,ap1,m1,Z1,h1,h2⟩:=h;exact ⟨J1,ao1,n1,Y1,K1,ap1,m1,Z1,h1,λ e => RU.stay W W' _ (h2 e) hk⟩
def VU (G:Nat->Prop) (k:Int) (r:Rat) (W:World) (v:Value):Prop:=∃ J1 ao1 n1 Y1 K1 ap1 m1 Z1,v=.agg #[.bool J1,.slice ao1 n1 Y1,.bool K1,.slice ap1 m1 Z1]/\(k=0->RU G r W (.agg #[.bool J1,.slice ao1 n1 Y1,.bool K1,.slice ap1 m1 Z1]))
theorem VU.stay {G:Nat->Prop} {k:Int} {r:Rat}:zdB G (VU G k r):=λ W W' v h hk => by
 obtain ⟨J1,ao1,n1,Y1,K1,ap1,m1,Z1,h1,h2⟩:=h;exact ⟨J1,ao1,n1,Y1,K1,ap1,m1,Z1,h1,λ e => RU.stay W W' _ (h2 e) hk⟩
theorem znA {W:World} {g:Nat} {v:Rat} {k:Int} {x0 x1 x2 x3:Value} {J1:Bool} {ao1:Option Addr} {n1 Y1:Nat} {K1:Bool} {ap1:Option Addr} {m1 Z1:Nat} (r:Row W g 137 [x0,x1,x2,x3,.int .i64 0]) (h:k=0->zac W (qA J1 ao1 n1 Y1 K1 ap1 m1 Z1) v) (hn:NoU (λ b => b=g) W) :
  ∃ J5 ao5 n5 Y5 K5 ap5 m5 Z5,Row ((((W.setCell ⟨g,0,none⟩ (.bool J1)).setCell ⟨g,1,none⟩ (.slice ao1 n1 Y1)).setCell ⟨g,2,none⟩ (.bool K1)).setCell ⟨g,3,none⟩ (.slice ap1 m1 Z1)) g 137 [.bool J5,.slice ao5 n5 Y5,.bool K5,.slice ap5 m5 Z5,.int .i64 0] /\
   (k=0->zac ((((W.setCell ⟨g,0,none⟩ (.bool J1)).setCell ⟨g,1,none⟩ (.slice ao1 n1 Y1)).setCell ⟨g,2,none⟩ (.bool K1)).setCell ⟨g,3,none⟩ (.slice ap1 m1 Z1)) (.agg #[.bool J5,.slice ao5 n5 Y5,.bool K5,.slice ap5 m5 Z5]) v)/\NoU (λ b => b=g) ((((W.setCell ⟨g,0,none⟩ (.bool J1)).setCell ⟨g,1,none⟩ (.slice ao1 n1 Y1)).setCell ⟨g,2,none⟩ (.bool K1)).setCell ⟨g,3,none⟩ (.slice ap1 m1 Z1)):=by
 have hk:zaf (λ b => b=g) W ((((W.setCell ⟨g,0,none⟩ (.bool J1)).setCell ⟨g,1,none⟩ (.slice ao1 n1 Y1)).setCell ⟨g,2,none⟩ (.bool K1)).setCell ⟨g,3,none⟩ (.slice ap1 m1 Z1)) :=
  ((((zaf.refl W:zaf (λ b => b=g) W W).setCell (p:=⟨g,0,none⟩) rfl _).setCell (p:=⟨g,1,none⟩) rfl _).setCell (p:=⟨g,2,none⟩) rfl _).setCell (p:=⟨g,3,none⟩) rfl _
 have R:Row ((((W.setCell ⟨g,0,none⟩ (.bool J1)).setCell ⟨g,1,none⟩ (.slice ao1 n1 Y1)).setCell ⟨g,2,none⟩ (.bool K1)).setCell ⟨g,3,none⟩ (.slice ap1 m1 Z1)) g 137 [.bool J1,.slice ao1 n1 Y1,.bool K1,.slice ap1 m1 Z1,.int .i64 0]:=(((r.set 0 (.bool J1)).set 1 (.slice ao1 n1 Y1)).set 2 (.bool K1)).set 3 (.slice ap1 m1 Z1);exact ⟨_,_,_,_,_,_,_,_,R,λ q => (h q).keptU hk hn,R.noU zkK⟩
theorem zjV (W:World) (g:Nat) (y0 y1 y2 y3:Value):zaf (λ b => b=g) W ((((W.setCell ⟨g,0,none⟩ y0).setCell ⟨g,1,none⟩ y1).setCell ⟨g,2,none⟩ y2).setCell ⟨g,3,none⟩ y3) :=
 ((((zaf.refl W:zaf (λ b => b=g) W W).setCell (p:=⟨g,0,none⟩) rfl _).setCell (p:=⟨g,1,none⟩) rfl _).setCell (p:=⟨g,2,none⟩) rfl _).setCell (p:=⟨g,3,none⟩) rfl _
theorem zmB {W:World} {g:Nat} {v:Rat} {k k0:Int} {J1:Bool} {ao1:Option Addr} {n1 Y1:Nat} {K1:Bool} {ap1:Option Addr} {m1 Z1:Nat} (r:Row W g 137 [.bool J1,.slice ao1 n1 Y1,.bool K1,.slice ap1 m1 Z1,.int .i64 k0]) (h:k=0->zac W (qA J1 ao1 n1 Y1 K1 ap1 m1 Z1) v):zcr (W.setCell ⟨g,4,none⟩ (.int .i64 k)) g k v :=
 ⟨_,_,_,_,_,_,_,_,r.set 4 (.int .i64 k),λ q => (h q).keptU ((zaf.refl W:zaf (λ b => b=g) W W).setCell (p:=⟨g,4,none⟩) rfl _) (r.noU zkK)⟩
theorem zdt (w:World) (hE:Env w) :
  Calls Tryz.prog 92 #[] w λ e w' => (∃ g,e=.returned (.pointer (some ⟨g,0,none⟩))/\w.heap.size<=g/\zcr w' g 0 0)/\BH w w':=by
 go_enter func92,ntmps92;go_wp2_with fail;go_fit (zaF 0 (by decide) (by decide) w hE);rintro e w1 ⟨hR,hb⟩;obtain ⟨J1,ao1,n1,Y1,K1,ap1,m1,Z1,rfl,hV⟩:=hR.rat;have hV:zac w1 (qA J1 ao1 n1 Y1 K1 ap1 m1 Z1) 0:=hV;clear hR;go_wp2;go_ret;have h2:=bA w1 (.cells #[.bool J1,.slice ao1 n1 Y1,.bool K1,.slice ap1 m1 Z1,.int .i64 0] 137);exact ⟨⟨w1.heap.size,rfl,hb.size,_,_,_,_,_,_,_,_,heap_alloc_new _ _,λ _ => hV.mono h2⟩,bu hb h2⟩
theorem zi8 (g:Nat) (r x:Rat) (k:Int) (vx:Value) (w:World) (hs:zcr w g 0 r) (hx:zac w vx x) (hA:Hid (KQ k (zeb r x))) (hE:Env w) :
  Calls Tryz.prog 93 #[.pointer (some ⟨g,0,none⟩),vx] w λ e w' => e=.returned (.tuple #[])/\zcr w' g k (r + x)/\zaf (λ b => b=g) w w':=by
 obtain ⟨J1,ao1,n1,Y1,K1,ap1,m1,Z1,rS,hV⟩:=hs;have hV:=hV rfl;obtain ⟨J2,ao2,n2,Y2,K2,ap2,m2,Z2,rfl⟩:=hx.parts;have hkw:zaf (λ b => b=g) w w:=zaf.refl w;go_enter func93,ntmps93;go_upto_region 1 with fail;obtain ⟨w1,g3,hw9,hg9,hb,r3⟩:=bxr w [.bool J2,.slice ao2 n2 Y2,.bool K2,.slice ap2 m2 Z2] 32;rw [<- hw9,<- hg9];have Hg3:Hid (g < g3):=hii (by rw [hg9]; exact rS.lt);clear hw9 hg9;have hkw:zaf (λ b => b=g) w w1:=.of_below hb;have hV:=hV.mono hb;have hx:=hx.mono hb;have hE:=hE.mono hb;have rS:=rS.below hb;clear hb;obtain ⟨c0,c1,c2,c3,c4⟩:=rS.n5;go_upto_region 2 with fail;clear c0 c1 c2 c3 c4;have Hn:Hid (NoU (λ b => b=g) w1):=hii (rS.noU zkK);have Hne:Hid (¬ g3=g):=hii (by have:=Hg3.out; omega);obtain ⟨w2,rfl⟩:=exi w1;refine zaY (G:=(λ b => b=g)) (wx:=w2) [vf (.pointer (some ⟨g,0,none⟩)),vf (.pointer (some ⟨g,0,none⟩)),vf (.pointer (some ⟨g,0,none⟩)),vf (.pointer (some ⟨g,0,none⟩)),vf (.pointer (some ⟨g,0,none⟩)),vf (.agg #[.bool J1,.slice ao1 n1 Y1,.bool K1,.slice ap1 m1 Z1]),vf (.agg #[.bool J2,.slice ao2 n2 Y2,.bool K2,.slice ap2 m2 Z2]),(TU (λ b => b=g) k (r + x)),(TU (λ b => b=g) k (r + x)),(VU (λ b => b=g) k (r + x)),vf (.int .i64 k),vf (.pointer (some ⟨g,0,none⟩)),vf (.pointer (some ⟨g,0,none⟩)),(λ _ _ => True),vf (.pointer (some ⟨g,0,none⟩)),vf (.pointer (some ⟨g,4,none⟩)),(λ _ _ => True)] [some 10,some 11,some 12,some 13,some 14,some 15,some 16,some 17,some 9,some 18,some 19,some 20,some 21,none,some 22,some 23,none] [10,11,12,13,14,15,16,17,9,18,19,20,21,22,23] [13,16] [[0],[0,1],[0],[0],[0],[0],[0],[0],[0],[0],[0,1],[0,1],[0],[0],[1,2],[1],[1]] [none,none,none,none,none,none,none,none,none,none,none,none,none,none,none,none,none] (λ p T W => match p with | 0 => BH w2 W | 1 => ∃ J5 ao5 n5 Y5 K5 ap5 m5 Z5,Row W g 137 [.bool J5,.slice ao5 n5 Y5,.bool K5,.slice ap5 m5 Z5,.int .i64 0]/\(k=0->zac W (qA J5 ao5 n5 Y5 K5 ap5 m5 Z5) (r + x))/\NoU (λ b => b=g) W | _ + 2 => zcr W g k (r + x)) (by kernel_rfl) (by kernel_rfl) (by kernel_rfl) (by kernel_rfl) (of_decide_eq_true (by kernel_rfl)) (of_decide_eq_true (by kernel_rfl)) (by kernel_rfl) (by kernel_rfl) (λ T => br.drew) (λ p T W W' h hb => match p,h with | 0,h => bu h hb | 1,h => h.elim λ a h => h.elim λ b h => h.elim λ c h => h.elim λ d h => h.elim λ e h => h.elim λ f h => h.elim λ i h => h.elim λ j h => ⟨a,b,c,d,e,f,i,j,h.1.below hb,λ q => (h.2.1 q).mono hb,(h.1.below hb).noU zkK⟩ | _ + 2,h => h.mono hb) (λ p T T' W hT h => match p,hT,h with | 0,_,h => h | 1,_,h => h | _ + 2,_,h => h) (zaf.refl _) ⟨zaa _ _,zaa _ _,zaa _ _,zaa _ _,zaa _ _,zaa _ _,zaa _ _,TU.stay,TU.stay,VU.stay,zaa _ _,zaa _ _,zaa _ _,(λ _ _ _ h _ => h),zaa _ _,zaa _ _,(λ _ _ _ h _ => h),trivial⟩ ⟨?s0,?s1,?s2,?s3,?s4,?s5,?s6,?s7,?s8,?s9,?s10,?s11,?s12,?s13,?s14,?s15,?s16,trivial⟩ ?he
 case' s0 | s1 | s2 | s3 | s4 | s5 | s6 | s7 | s8 | s9 | s10 | s11 | s12 | s13 | s14 | s15 | s16 =>
  rintro T W p hb hp hS hA K hK
 case' s0 | s1 | s2 =>
  clear hS;simp only [sA] at hK |-
 case' s3 =>
  clear hS;have e2:T 12=_:=hA.1 rfl;simp only [sA,e2] at hK |-
 case' s4 =>
  clear hS;have e3:T 13=_:=hA.1 rfl;simp only [sA,e3] at hK |-
 case' s5 =>
  obtain rfl:p=0:=by simpa using hp
  have hS:BH w2 W:=hS;have e4:T 14=_:=hA.1 rfl;obtain ⟨c0,c1,c2,c3,c4⟩:=(rS.below hS).n5;simp only [sA,e4] at hK |-
 case' s6 =>
  obtain rfl:p=0:=by simpa using hp
  have hS:BH w2 W:=hS;obtain ⟨d0,d1,d2,d3⟩:=(r3.below hS).n4;simp only [sA] at hK |-
 case' s10 =>
  clear hS;have r8:(_:World->Value->Prop) W (T 9):=hA.1 rfl;obtain ⟨J6,ao6,n6,Y6,K6,ap6,m6,Z6,e8,hv6⟩:=r8;simp only [sA,e8] at hK |-
 case' s11 =>
  clear hS;have e0:T 10=_:=hA.1 rfl;simp only [sA,e0] at hK |-
 case' s12 =>
  clear hS;have e11:T 20=_:=hA.1 rfl;simp only [sA,e11] at hK |-
 case' s14 =>
  clear hS;have e1:T 11=_:=hA.1 rfl;simp only [sA,e1] at hK |-
 case' s15 =>
  clear hS;have e14:T 22=_:=hA.1 rfl;simp only [sA,e14] at hK |-
 case s0 | s1 | s2 | s3 | s4 | s5 | s6 | s10 | s11 | s12 | s14 | s15 =>
  have HK:=hii hK;clear hK hA;refine wO rfl (by rfl) ?_;go_simp;exact HK.out _ _ ⟨λ _ => br,λ h => absurd h (zap (by decide) (by decide))⟩ (rfl)
 case s7 =>
  obtain rfl:p=0:=by simpa using hp
  have hS:BH w2 W:=hS;have e5:T 15=_:=hA.1 rfl;have e6:T 16=_:=hA.2.1 rfl;simp only [sA,e5,e6] at hK |-;have HK:=hii hK;clear hK hA;refine wO rfl (by rfl) ?_;go_simp;go_fit (zmf _ _ r x k W (hV.mono hS) (hx.mono hS) hA (hE.mono hS));rintro e w3 ⟨hz,hb1⟩;obtain ⟨J6,ao6,n6,Y6,K6,ap6,m6,Z6,rfl,hv6⟩:=hz.rat;have hn3:NoU (λ b => b=g) w3:=by
   have hS2:=bu hS hb1;exact (rS.below hS2).noU zkK
  try dsimp only
  exact HK.out _ _ ⟨λ _ => hb1,λ h => absurd h (zap (by decide) (by decide))⟩ (⟨_,_,_,_,_,_,_,_,rfl,λ q => (hv6 q).ru hn3⟩)
 case s8 =>
  clear hS;have r7:((TU (λ b => b=g) k (r + x)):World->Value->Prop) W (T 17):=hA.1 rfl;simp only [sA] at hK |-;have HK:=hii hK;clear hK hA;refine wO rfl (by rfl) ?_;go_simp;exact HK.out _ _ ⟨λ _ => br,λ h => absurd h (zap (by decide) (by decide))⟩ (r7)
 case s9 =>
  clear hS;have r8:(_:World->Value->Prop) W (T 9):=hA.1 rfl;obtain ⟨J6,ao6,n6,Y6,K6,ap6,m6,Z6,e8,hv6⟩:=r8;simp only [sA,e8] at hK |-;have HK:=hii hK;clear hK hA;refine wO rfl (by rfl) ?_;go_simp;exact HK.out _ _ ⟨λ _ => br,λ h => absurd h (zap (by decide) (by decide))⟩ (⟨_,_,_,_,_,_,_,_,rfl,hv6⟩)
 case s13 =>
  obtain rfl:p=0:=by simpa using hp
  have hS:BH w2 W:=hS;have e12:T 21=_:=hA.1 rfl;have r9:(_:World->Value->Prop) W (T 18):=hA.2.1 rfl;obtain ⟨J6,ao6,n6,Y6,K6,ap6,m6,Z6,e9,hv6⟩:=r9;have R:=rS.below hS;obtain ⟨c0,c1,c2,c3,c4⟩:=R.n5;have f:=R.free;simp only [sA,e12,e9] at hK |-;have HK:=hii hK;clear hK hA;refine wO rfl (by rfl) ?_;go_simp;exact HK.out undef _ ⟨λ h => absurd rfl h,λ _ => ⟨znA R (λ q => (hv6 q).rat) (R.noU zkK),zjV W g _ _ _ _⟩⟩ (trivial)
 case s16 =>
  obtain rfl:p=1:=by simpa using hp
  have hS:∃ J5 ao5 n5 Y5 K5 ap5 m5 Z5,Row W g 137 [.bool J5,.slice ao5 n5 Y5,.bool K5,.slice ap5 m5 Z5,.int .i64 0]/\(k=0->zac W (qA J5 ao5 n5 Y5 K5 ap5 m5 Z5) (r + x))/\NoU (λ b => b=g) W:=hS;have e15:T 23=_:=hA.1 rfl;have e10:T 19=_:=hA.2.1 rfl;obtain ⟨J7,ao7,n7,Y7,K7,ap7,m7,Z7,R,hv7,hn7⟩:=hS;obtain ⟨c0,c1,c2,c3,c4⟩:=Row.n5 R;have f:=Row.free R;simp only [sA,e15,e10] at hK |-;have HK:=hii hK;clear hK hA;refine wO rfl (by rfl) ?_;go_simp;exact HK.out undef _ ⟨λ h => absurd rfl h,λ _ => ⟨zmB R hv7,(zaf.refl W:zaf (λ b => b=g) W W).setCell (p:=⟨g,4,none⟩) rfl _⟩⟩ (trivial)
 case he =>
  rintro T W hb hS hA;have hS:zcr W g k (r + x):=hS;simp only [sA];clear hA;go_wp2;go_end0;exact ⟨rfl,hS,hkw.trans hb⟩
theorem zaT (va vb:Value) (a b:Rat) (w:World) (ha:zac w va a) (hv:zac w vb b) (hC:Hid (CrS a b)) (hE:Env w) :
  Calls Tryz.prog 70 #[va,vb] w λ e w' => e=.returned (.int .i64 (Rq.cmpQ a b))/\BH w w':=by
 have hbw:=Below.refl w.heap.size w;obtain ⟨J1,ao1,n1,Y1,K1,ap1,m1,Z1,rfl⟩:=ha.parts;obtain ⟨J2,ao2,n2,Y2,K2,ap2,m2,Z2,rfl⟩:=hv.parts;have HCmp:=λ W h1 h2 h3 => zjo (.agg #[.bool J1,.slice ao1 n1 Y1,.bool K1,.slice ap1 m1 Z1]) (.agg #[.bool J2,.slice ao2 n2 Y2,.bool K2,.slice ap2 m2 Z2]) a b W h1 h2 hC h3
 generalize Rq.cmpQ a b=c at HCmp |-;go_enter func70,ntmps70;go_upto_region 1 with fail;obtain ⟨wx,hwx,r1,r2,hb⟩:=zaO w 32 32 [.bool J1,.slice ao1 n1 Y1,.bool K1,.slice ap1 m1 Z1] [.bool J2,.slice ao2 n2 Y2,.bool K2,.slice ap2 m2 Z2];simp only [List.toArray] at hwx;rw [<- hwx];clear hwx;obtain ⟨w1,rfl⟩:=exi wx;obtain ⟨g2,hg2⟩:=exi (w.heap.size + 1);have Hg2:Hid (w.heap.size<=g2):=hii (by omega);rw [<- hg2] at r2 |-;clear hg2;obtain ⟨g1,hg1⟩:=exi (w.heap.size);have Hg1:Hid (w.heap.size<=g1):=hii (by omega);rw [<- hg1] at r1 |-;clear hg1;have ha:=ha.mono hb;have hv:=hv.mono hb;have hE:=hE.mono hb;have hbw:=bu hbw hb;clear hb;obtain ⟨c0,c1,c2,c3⟩:=r1.n4;obtain ⟨d0,d1,d2,d3⟩:=r2.n4;go_wp2_with fail;go_fit (HCmp w1 ha hv hE);rintro e w2 ⟨rfl,hb⟩;have hbw:=bu hbw hb;clear hb;go_wp2;go_ret;exact ⟨rfl,hbw⟩
theorem zeC (va vb:Value) (a b:Rat) (w:World) (ha:zac w va a) (hv:zac w vb b) (hC:Hid (CrS a b)) (hE:Env w) :
  Calls Tryz.prog 73 #[va,vb] w λ e w' => e=.returned (.bool (decide (0<=Rq.cmpQ a b)))/\BH w w':=by
 have hbw:=Below.refl w.heap.size w;obtain ⟨J1,ao1,n1,Y1,K1,ap1,m1,Z1,rfl⟩:=ha.parts;obtain ⟨J2,ao2,n2,Y2,K2,ap2,m2,Z2,rfl⟩:=hv.parts;have HCmp:=λ W h1 h2 h3 => zjo (.agg #[.bool J1,.slice ao1 n1 Y1,.bool K1,.slice ap1 m1 Z1]) (.agg #[.bool J2,.slice ao2 n2 Y2,.bool K2,.slice ap2 m2 Z2]) a b W h1 h2 hC h3
 generalize Rq.cmpQ a b=c at HCmp |-;go_enter func73,ntmps73;go_upto_region 1 with fail;obtain ⟨wx,hwx,r1,r2,hb⟩:=zaO w 32 32 [.bool J1,.slice ao1 n1 Y1,.bool K1,.slice ap1 m1 Z1] [.bool J2,.slice ao2 n2 Y2,.bool K2,.slice ap2 m2 Z2];simp only [List.toArray] at hwx;rw [<- hwx];clear hwx;obtain ⟨w1,rfl⟩:=exi wx;obtain ⟨g2,hg2⟩:=exi (w.heap.size + 1);have Hg2:Hid (w.heap.size<=g2):=hii (by omega);rw [<- hg2] at r2 |-;clear hg2;obtain ⟨g1,hg1⟩:=exi (w.heap.size);have Hg1:Hid (w.heap.size<=g1):=hii (by omega);rw [<- hg1] at r1 |-;clear hg1;have ha:=ha.mono hb;have hv:=hv.mono hb;have hE:=hE.mono hb;have hbw:=bu hbw hb;clear hb;obtain ⟨c0,c1,c2,c3⟩:=r1.n4;obtain ⟨d0,d1,d2,d3⟩:=r2.n4;go_wp2_with fail;go_fit (HCmp w1 ha hv hE);rintro e w2 ⟨rfl,hb⟩;have hbw:=bu hbw hb;clear hb;go_wp2;go_ret;exact ⟨rfl,hbw⟩
theorem zgq (g:Nat) (r x y:Rat) (vx vy:Value) (w:World) (hs:zcr w g 0 r) (hx:zac w vx x) (hy:zac w vy y) (hM:Hid (zdH x y)) (hA:Hid (zeb r (x * y))) (hG:zhd g w) :
  Calls Tryz.prog 107 #[.pointer (some ⟨g,0,none⟩),vx,vy] w λ e w' => e=.returned (.tuple #[])/\zcr w' g 0 (r + x * y)/\zaf (λ b => b=g) w w':=by
 have hbw:=Below.refl w.heap.size w;have hE:=hG.env;have Hgl:Hid (g < w.heap.size):=hii hs.lt;obtain ⟨J1,ao1,n1,Y1,K1,ap1,m1,Z1,rfl⟩:=hx.parts;obtain ⟨J2,ao2,n2,Y2,K2,ap2,m2,Z2,rfl⟩:=hy.parts;go_enter func107,ntmps107;go_upto_region 1 with fail;obtain ⟨wx,hwx,r1,r2,hb⟩:=zaO w 32 32 [.bool J1,.slice ao1 n1 Y1,.bool K1,.slice ap1 m1 Z1] [.bool J2,.slice ao2 n2 Y2,.bool K2,.slice ap2 m2 Z2];simp only [List.toArray] at hwx;rw [<- hwx];clear hwx;obtain ⟨w1,rfl⟩:=exi wx;obtain ⟨g2,hg2⟩:=exi (w.heap.size + 1);have Hg2:Hid (w.heap.size<=g2):=hii (by omega);rw [<- hg2] at r2 |-;clear hg2;obtain ⟨g1,hg1⟩:=exi (w.heap.size);have Hg1:Hid (w.heap.size<=g1):=hii (by omega);rw [<- hg1] at r1 |-;clear hg1;have hx:=hx.mono hb;have hy:=hy.mono hb;have hs:=hs.mono hb;have hG:=hG.mono hb;have hE:=hE.mono hb;have hbw:=bu hbw hb;clear hb;obtain ⟨c0,c1,c2,c3⟩:=r1.n4;obtain ⟨d0,d1,d2,d3⟩:=r2.n4;go_wp2_with fail;go_fit (zl5 _ _ x y w1 hx hy hM hE);rintro e w2 ⟨hz,hb⟩;obtain ⟨J3,ao3,n3,Y3,K3,ap3,m3,Z3,rfl,hp⟩:=hz.rat;have hs:=hs.mono hb;have hG:=hG.mono hb;have hbw:=bu hbw hb;clear hb;clear hz c0 c1 c2 c3 d0 d1 d2 d3 r1 r2 hx hy hE;go_upto_region 2 with fail;obtain ⟨w3,g6,hw9,hg9,hb,r6⟩:=bxr w2 [.bool J3,.slice ao3 n3 Y3,.bool K3,.slice ap3 m3 Z3] 32;rw [<- hw9,<- hg9];have Hg6:Hid (w.heap.size<=g6):=hii (by have:=hbw.size; omega);clear hw9 hg9;have hp:=hp.mono hb;have hs:=hs.mono hb;have hG:=hG.mono hb;have hbw:=bu hbw hb;clear hb;obtain ⟨J4,ao4,n4,Y4,K4,ap4,m4,Z4,rS,hV⟩:=hs;have hV:=hV rfl;have hSl:=rS.lt;obtain ⟨c0,c1,c2,c3,c4⟩:=rS.n5;have f:=rS.free;have HS2:=hii (zmB (k:=0) rS λ _ => hV);have hk0:zaf (λ b => b=g) w3 (w3.setCell ⟨g,4,none⟩ (.int .i64 0)):=(zaf.refl w3:zaf (λ b => b=g) w3 w3).setCell (p:=⟨g,4,none⟩) rfl _;have Hn:Hid (NoU (λ b => b=g) w3):=hii (rS.noU zkK);have Hg6n:Hid (¬ g6=g):=hii (by have:=Hgl.out; have:=Hg6.out; omega);have hp:=hp.keptU hk0 Hn.out;have r6:=r6.mono hk0 Hg6n.out;have hG:=hG.kept hk0;have Hk:=hii ((zaf.of_below hbw).trans hk0);clear hk0 hV hbw rS hSl Hn;go_upto_region 5 with fail;clear c0 c1 c2 c3 c4 f;generalize w3.setCell ⟨g,4,none⟩ (.int .i64 0)=w4 at *;obtain ⟨c0,c1,c2,c3⟩:=r6.n4;go_wp2_with fail;go_fit (zi8 g r (x * y) 0 _ w4 HS2.out hp (hii (KQ.ok hA.out)) hG.env);rintro e w5 ⟨rfl,hs,hk⟩;have Hk:=hii (Hk.out.trans hk);clear hk;go_wp2;go_end0;exact ⟨rfl,hs,Hk.out⟩
section
variable {α : Type}
def EU (k:Nat) (R:World->List Value->α->Prop) (w:World) (ao:Option Addr) (l:List α):Prop :=
 ∀ (i:Nat) (a:α),l[i]?=some a->∃ b off c,ao=some ⟨b,off,none⟩/\c.length=k/\(∀ (j:Nat) (u:Value),c[j]?=some u->w.cell? ⟨b,off + (i * k + j),none⟩=some u)/\R w c a
def zc4 (R:World->List Value->α->Prop):Prop:=∀ (G:Nat->Prop) (w w':World) (c:List Value) (a:α),R w c a->zaf G w w'->NoU G w->R w' c a
theorem zc4.below {R:World->List Value->α->Prop} (h:zc4 R) {w w':World} {c:List Value} {a:α} (hr:R w c a) (hb:BH w w'):R w' c a :=
 h (λ _ => False) w w' c a hr (.of_below hb) λ g hg => hg.elim
theorem EU.mono {k:Nat} {R:World->List Value->α->Prop} (hR:zc4 R) {w w':World} {ao:Option Addr} {l:List α} (h:EU k R w ao l) (hb:BH w w'):EU k R w' ao l:=λ i a hi => by
 obtain ⟨b,off,c,e,hk,hc,hr⟩:=h i a hi;exact ⟨b,off,c,e,hk,λ j u hu => (hb.cell (zag (hc j u hu))).trans (hc j u hu),hR.below hr hb⟩
theorem EU.nil {k:Nat} {R:World->List Value->α->Prop} (w:World) (ao:Option Addr):EU k R w ao ([]:List α):=λ i a hi => by simp at hi
def zcc (T:TypeId) (k:Nat) (R:World->List Value->α->Prop) (w:World) (B:Nat) (v:Value) (l:List α):Prop :=
 ∃ els:List (List Value),els.length=l.length/\(∀ c∈els,c.length=k)/\w.ownsRow B T k v l.length els.flatten/\znc w v/\∀ (i:Nat) (c:List Value) (a:α),els[i]?=some c->l[i]?=some a->R w c a
theorem zcc.nil {T:TypeId} {k:Nat} {R:World->List Value->α->Prop} (w:World) (B:Nat):zcc T k R w B (.slice none 0 0) ([]:List α) :=
 ⟨[],rfl,λ c h => by simp at h,World.ownsRow_nil _ _ _ _,λ g hg => by simp [Value.ownBlock] at hg,λ i c a h => by simp at h⟩
theorem zcc.kept {T:TypeId} {k:Nat} {R:World->List Value->α->Prop} (hR:zc4 R) {G:Nat->Prop} {w w':World} {B:Nat} {v:Value} {l:List α} (h:zcc T k R w B v l) (hk:zaf G w w') (hp:NoU G w) (hv:∀ b,v.ownBlock=some b->¬ G b):zcc T k R w' B v l:=by
 obtain ⟨els,h1,h2,h3,h4,h5⟩:=h;refine ⟨els,h1,h2,zaP h3 hk hv,λ g hg cur t fr hc => ?_,λ i c a hc ha => hR G w w' c a (h5 i c a hc ha) hk hp⟩;have hlt:=(World.ownsRow.lt h3 g hg).2;exact h4 g hg cur t fr ((hk.block g hlt (hv g hg)).symm.trans hc)
theorem zcc.mono {T:TypeId} {k:Nat} {R:World->List Value->α->Prop} (hR:zc4 R) {w w':World} {B:Nat} {v:Value} {l:List α} (h:zcc T k R w B v l) (hb:BH w w'):zcc T k R w' B v l :=
 h.kept hR (G:=λ _ => False) (.of_below hb) (λ g hg => hg.elim) λ _ _ hg => hg
theorem zcc.lt {T:TypeId} {k:Nat} {R:World->List Value->α->Prop} {w:World} {B:Nat} {v:Value} {l:List α} (h:zcc T k R w B v l):∀ b,v.ownBlock=some b->B<=b/\b < w.heap.size:=by
 obtain ⟨els,h1,h2,h3,h4,h5⟩:=h;exact World.ownsRow.lt h3
theorem zcc.noU {T:TypeId} {k:Nat} {R:World->List Value->α->Prop} {w:World} {B:Nat} {v:Value} {l:List α} (h:zcc T k R w B v l):NoU (λ b => v.ownBlock=some b) w:=by
 obtain ⟨els,h1,h2,h3,h4,h5⟩:=h;exact λ g hg => h4 g hg
theorem zgV {k:Nat}:∀ (els:List (List Value)),(∀ c∈els,c.length=k)->∀ (i:Nat) (c:List Value),els[i]?=some c->∀ (j:Nat) (u:Value),c[j]?=some u->els.flatten[i * k + j]?=some u
 | [],_,i,c,h => by simp at h
 | d :: els,hk,i,c,h => by
  intro j u hu;have hd:=hk d (by simp)
  cases i with
  | zero =>
   simp at h;subst h;have hj:j < d.length:=(List.getElem?_eq_some_iff.1 hu).1;rw [List.flatten_cons,Nat.zero_mul,Nat.zero_add,List.getElem?_append_left hj]; exact hu
  | succ i =>
   have:=zgV els (λ c hc => hk c (by simp [hc])) i c (by simpa using h) j u hu;have e:(i + 1) * k + j=d.length + (i * k + j):=by rw [hd,Nat.add_mul]; omega
   rw [List.flatten_cons,e,List.getElem?_append_right (by omega),show d.length + (i * k + j) - d.length=i * k + j by omega];exact this
theorem zcc.read {T:TypeId} {k:Nat} {R:World->List Value->α->Prop} {w:World} {B:Nat} {v:Value} {l:List α} (h:zcc T k R w B v l):∃ ao cap,v=.slice ao l.length cap/\l.length<=cap/\EU k R w ao l:=by
 obtain ⟨els,h1,h2,h3,h4,h5⟩:=h;have h30:=h3;rcases h3.2 with ⟨rfl,hn⟩ | ⟨g,cap,cur,rfl,hB,hg,hnc,hcm,hcs,htake⟩
 ·have:l=[]:=List.eq_nil_of_length_eq_zero hn;subst this;exact ⟨none,0,rfl,nl,EU.nil _ _⟩
 ·refine ⟨some ⟨g,0,none⟩,cap,rfl,hnc,λ i a hi => ?_⟩;have hil:i < els.length:=by rw [h1]; exact (List.getElem?_eq_some_iff.1 hi).1
  have hc:=gE hil;refine ⟨g,0,els[i],rfl,h2 _ (List.getElem_mem hil),λ j u hu => ?_,h5 i _ a hc hi⟩;rw [Nat.zero_add];exact zaA h30 (zgV els h2 i _ hc j u hu)
theorem zid (R:World->List Value->α->Prop) (hR:zc4 R) {t e:TypeId} {z:Value} {k nb:Nat} (hs:Tryz.prog.underlying t=some (.slice e)) (hi:(Tryz.prog.info? e).map (λ i => (i.zero,i.size,i.bytes))=some (some z,k,nb))
  (hzk:z.cells.size=k) (hk0:0 < k) (hnb:nb<=1000) (hzn:∀ u∈z.cells.toList,zaI u)
  (w W:World) (ty:TypeId) (B:Nat) (v:Value) (l:List α) (a:α) (bx c:Nat) (news:List Value) (hown:zcc e k R w B v l) (hB:B<=w.heap.size) (hb:Below B W w)
  (hn:news.length=k) (hc:∀ (j:Nat) (u:Value),news[j]?=some u->w.cell? ⟨bx,j,none⟩=some u) (hone:∀ u∈news,u.oneCell'=true) (hnl:∀ u∈news,zaI u) (hr:R w news a) (hl:l.length<=1000000) :
  ∃ v' w',(Builtin.append_ #[t,t] ty #[v,.slice (some ⟨bx,0,none⟩) 1 c]).run Tryz.prog w=.ok v' w'/\zcc e k R w' B v' (l ++ [a])/\Below B W w'/\w.grownBy w' v.ownBlock/\(v'.ownBlock=v.ownBlock\/v'.ownBlock=some w.heap.size):=by
 obtain ⟨i0,hi,hz0,hz1,hz2⟩:=info_parts hi;obtain ⟨els,k1,k2,k3,k4,k5⟩:=hown;have hcn:∀ (j:Nat) (u:Value),news[j]?=some u->w.cell? ((⟨bx,0,none⟩:Addr).add j)=some u:=by
  intro j u hj;have ha:(⟨bx,0,none⟩:Addr).add j=⟨bx,j,none⟩:=by
   unfold Addr.add; split
   ·subst j; rfl
   ·simp
  rw [ha]; exact hc j u hj
 have hby:(l.length + 1) * i0.bytes<=140737488355328:=by
  rw [hz2];exact Nat.le_trans (Nat.mul_le_mul (show l.length + 1<=1000001 by omega) hnb) (by decide)
 obtain ⟨v',w',hr1,h3,h4,h5⟩:=zce (P:=Tryz.prog) w B t ty e i0 z hs hi hz0 (by rw [hz1]; exact hzk) (by rw [hz1]; exact hk0) v l.length els.flatten (by rw [hz1]; exact k3) k4 ⟨bx,0,none⟩ 1 c news (by rw [hz1,Nat.one_mul]; exact hn) hcn hone (by unfold maxLen; omega) hby hB (by omega) hzn hnl;obtain ⟨v2,w2,hr2,_,_,_,hat⟩:=run_append_own_at (P:=Tryz.prog) w B t ty e i0 z i0.size i0.bytes hs hi hz0 rfl rfl (by rw [hz1]; exact hzk) (by rw [hz1]; exact hk0) v l.length els.flatten (by rw [hz1]; exact k3) ⟨bx,0,none⟩ 1 c news (by rw [hz1,Nat.one_mul]; exact hn) hcn hone (by unfold maxLen; omega) hby hB;have he:=hr1.symm.trans hr2;simp only [Result.ok.injEq] at he;obtain ⟨rfl,rfl⟩:=he;have hkp:zaf (λ b => v.ownBlock=some b) w w':=.of_grown h4;have hnu:NoU (λ b => v.ownBlock=some b) w:=λ g hg => k4 g hg
 refine ⟨v',w',hr1,⟨els ++ [news],by simp [k1],λ d hd => ?_,?_,h5,λ i d x hd hx => ?_⟩,hb.grown h4 hB λ g hg => (World.ownsRow.lt k3 g hg).1,h4,hat⟩
 ·rcases List.mem_append.1 hd with hd | hd
  ·exact k2 d hd
  ·simp at hd; subst hd; exact hn
 ·rw [hz1] at h3;rw [List.length_append,List.flatten_append,List.flatten_cons,List.flatten_nil,List.append_nil];exact h3
 ·rcases Nat.lt_or_ge i els.length with hl' | hl'
  ·rw [List.getElem?_append_left hl'] at hd;rw [List.getElem?_append_left (by rw [<- k1]; exact hl')] at hx;exact hR _ _ _ _ _ (k5 i d x hd hx) hkp hnu
  ·rw [List.getElem?_append_right hl'] at hd;rw [List.getElem?_append_right (by rw [<- k1]; exact hl'),<- k1] at hx;obtain ⟨q,hq⟩:∃ q,i - els.length=q:=⟨_,rfl⟩;rw [hq] at hd hx
   cases q with
   | zero =>
    simp at hd hx;subst hd;subst hx;exact hR _ _ _ _ _ hr hkp hnu
   | succ q => simp at hd
variable {ops : Array Oper} {rest : List Oper} {o : Oper} {act : Act} {Q : Exit → Act → World → Prop}
theorem zi5 (R:World->List Value->α->Prop) (hR:zc4 R) {t e:TypeId} {z:Value} {k nb:Nat} (hs:Tryz.prog.underlying t=some (.slice e)) (hi:(Tryz.prog.info? e).map (λ i => (i.zero,i.size,i.bytes))=some (some z,k,nb))
  (hzk:z.cells.size=k) (hk0:0 < k) (hnb:nb<=1000) (hzn:∀ u∈z.cells.toList,zaI u)
  (W X:World) (B:Nat) (hgd:o.guard=none) (s x:Operand) (ho:o.op=.call { callee:=.builtin .append,args:=#[s,x],argTypes:=#[t,t] })
  {v:Value} {l:List α} {a:α} {cs:Array Value} (hes:act.eval s=v) (hex:act.eval x=.slice (some ⟨W.heap.size,0,none⟩) 1 1) (hown:zcc e k R W B v l) (hB:B<=W.heap.size) (hb:Below B X W)
  (hn:cs.toList.length=k) (hone:∀ u∈cs.toList,u.oneCell'=true) (hnl:∀ u∈cs.toList,zaI u) (hr:R W cs.toList a) (hl:l.length<=1000000)
  (hK:∀ v' w',zcc e k R w' B v' (l ++ [a])->Below B X w'->zaf (λ b => v.ownBlock=some b) W w'->(∀ b,v'.ownBlock=some b->v.ownBlock=some b\/W.heap.size<=b)->wpList Tryz.prog ops Q rest (act.put o.dst v') w') :
  wpList Tryz.prog ops Q (o :: rest) act (W.alloc (.cells cs e)):=by
 have hba:=bA W (.cells cs e);have hrow:Row (W.alloc (.cells cs.toList.toArray e)) W.heap.size e cs.toList:=heap_alloc_new _ _;have hcs:cs.toList.toArray=cs:=by simp
 rw [hcs] at hrow;obtain ⟨v',w',h1,h2,h3,h4,h5⟩:=zid R hR hs hi hzk hk0 hnb hzn (W.alloc (.cells cs e)) X o.type B v l a W.heap.size 1 cs.toList (hown.mono hR hba) (Nat.le_trans hB hba.size) (hb.alloc hB _) hn
  (λ j u hu => by
   obtain ⟨hj,rfl⟩:=List.getElem?_eq_some_iff.1 hu;exact hrow.cell hj) hone hnl (hR.below hr hba) hl
 refine wpList_plain hgd λ K hK' => ?_
 exact zaB s x ho hes hex h1 (hK' _ _ (hK v' w' h2 h3 ((zaf.of_below hba).trans (.of_grown h4)) (λ b hb' => by
  rcases h5 with e | e
  ·exact .inl (e ▸ hb')
  ·rw [hb'] at e;simp only [Option.some.injEq] at e;have:=hba.size;exact .inr (by omega))))
theorem zm0 (R:World->List Value->α->Prop) (hR:zc4 R) {t e:TypeId} {z:Value} {k nb:Nat} (hs:Tryz.prog.underlying t=some (.slice e)) (hi:(Tryz.prog.info? e).map (λ i => (i.zero,i.size,i.bytes))=some (some z,k,nb))
  (hzk:z.cells.size=k) (hk0:0 < k) (hnb:nb<=1000) (hzn:∀ u∈z.cells.toList,zaI u)
  (W X:World) (B:Nat) (hgd:o.guard=none) (s x:Operand) (ho:o.op=.call { callee:=.builtin .append,args:=#[s,x],argTypes:=#[t,t] })
  {v:Value} {l:List α} {a:α} {cs:Array Value} (hes:act.eval s=v) (hex:act.eval x=.slice (some ⟨W.heap.size,0,none⟩) 1 1) (hown:zcc e k R W B v l) (hB:B<=W.heap.size) (hb:Below B X W)
  (hn:cs.toList.length=k) (hone:∀ u∈cs.toList,u.oneCell'=true) (hnl:∀ u∈cs.toList,zaI u) (hr:R W cs.toList a) (hl:l.length<=1000000)
  (hK:∀ a' n' c' w',zcc e k R w' B (.slice a' n' c') (l ++ [a])->Below B X w'->zaf (λ b => v.ownBlock=some b) W w'->(∀ b,(Value.slice a' n' c').ownBlock=some b->v.ownBlock=some b\/W.heap.size<=b)->wpList Tryz.prog ops Q rest (act.put o.dst (.slice a' n' c')) w') :
  wpList Tryz.prog ops Q (o :: rest) act (W.alloc (.cells cs e)):=by
 refine zi5 R hR hs hi hzk hk0 hnb hzn W X B hgd s x ho hes hex hown hB hb hn hone hnl hr hl λ v' w' h1 h2 h3 h4 => ?_
 obtain ⟨a',c',rfl,_,_⟩:=h1.read;exact hK _ _ _ w' h1 h2 h3 h4
end
def FS (w:World) (ao:Option Addr) (fs:List (List Nat)):Prop:=∀ (i:Nat) (l:List Nat),fs[i]?=some l->∃ b off al cl,ao=some ⟨b,off,none⟩/\w.cell? ⟨b,off + i,none⟩=some (.slice al l.length cl)/\l.length<=cl/\zaM w al l
theorem FS.mono {w w':World} {ao:Option Addr} {fs:List (List Nat)} (h:FS w ao fs) (hb:BH w w'):FS w' ao fs:=λ i l hi => by
 obtain ⟨b,off,al,cl,e,hc,hl,hu⟩:=h i l hi;exact ⟨b,off,al,cl,e,(hb.cell (zag hc)).trans hc,hl,hu.mono hb⟩
def zco:List (List Nat)->Nat
 | [] => 0
 | l :: r => if zgY l ≠ 0 then zgY l else zco r
def zbA:List Nat->Bool
 | [] => true
 | x :: _ => decide (x=0)
def setsE (fs:List (List Nat)):Nat:=if zco fs ≠ 0 then zco fs else if fs.any zbA then 9 else 0
theorem zh8 (fs:List (List Nat)) (aa:Option Addr) (ca:Nat) (w:World) (hl:fs.length<=1000) (ua:FS w aa fs) (h16:Hid (∀ l∈fs,l.length<=9223372036854775807/\zaJ l)) :
  Calls Tryz.prog 36 #[.slice aa fs.length ca] w λ e w' => e=.returned (.int .i64 (setsE fs:Nat))/\BH w w':=by
 have hbw:=Below.refl w.heap.size w;obtain ⟨E,hE⟩:∃ E,setsE fs=E:=⟨_,rfl⟩;rw [hE];have HE:=hii hE;clear hE;obtain ⟨N,hN⟩:∃ N,fs.length=N:=⟨_,rfl⟩;rw [hN] at hl |-;have HN:=hii hN;clear hN;go_enter func36,ntmps36;go_wp2_with fail;go_loopw [10] (λ s wr => ∃ k:Nat,k<=N/\s=.int .i64 k/\Hid (zco fs=zco (fs.drop k))/\BH w wr) (λ s _ => N - (intOf s).toNat)
 case atStart => exact ⟨0,Nat.zero_le _,rfl,hii rfl,hbw⟩
 case round =>
  clear hbw;obtain ⟨k,hk,rfl,HF,hbw⟩:=hrel
  by_cases hlt:k < N
  ·obtain ⟨l,hx⟩:∃ x,fs[k]?=some x:=⟨fs[k]'(by rw [HN.out]; exact hlt),gE _⟩;obtain ⟨b1,off1,al,cl,ea,hc,hcl,hu⟩:=(ua.mono hbw) k l hx;have hm:=h16.out l (List.mem_of_getElem? hx);have HV:=hii (zf5 l al cl wr hm.1 hcl hu (hii hm.2));have HF2:Hid (zco fs=if zgY l ≠ 0 then zgY l else zco (fs.drop (k + 1))):=hii (by rw [HF.out,zdd hx]; rfl);clear HF hu hx hm hcl;obtain ⟨q,hq⟩:∃ q,zgY l=q:=⟨_,rfl⟩;rw [hq] at HV HF2;clear hq;subst ea;go_wp2_with fail;(with_reducible refine HV.out.mono ?_);rintro e w2 ⟨rfl,hb⟩;have hbw:=bu hbw hb;clear hb HV hc
   by_cases hq0:q=0
   ·subst hq0;have HF3:Hid (zco fs=zco (fs.drop (k + 1))):=hii (by rw [HF2.out]; simp);clear HF2;go_wp2;go_roundw
    case rel => exact ⟨k + 1,by omega,by go_num,HF3,hbw⟩
    case measure => simp [intOf]; omega
   ·have hqn:((q:Int) != 0)=true:=by simp; omega
    have HE2:Hid (E=q):=hii (by rw [<- HE.out]; unfold setsE; rw [HF2.out,if_pos hq0,if_pos hq0]);clear HF2 HE;go_wp2;go_ret;exact ⟨by rw [HE2.out]; rfl,hbw⟩
  ·obtain rfl:k=N:=by omega
   have HE2:Hid (E=if fs.any zbA then 9 else 0):=hii (by
    rw [<- HE.out];unfold setsE;rw [if_neg];rw [HF.out,List.drop_of_length_le (by rw [HN.out]; exact nl)]; simp [zco])
   have hbw0:=hbw;clear HF HE hbw hlt;go_wp2_with fail;go_loopw [22] (λ s wr => ∃ j:Nat,j<=k/\s=.int .i64 j/\Hid (fs.any zbA=(fs.drop j).any zbA)/\BH w wr) (λ s _ => k - (intOf s).toNat)
   case atStart => exact ⟨0,Nat.zero_le _,rfl,hii rfl,hbw0⟩
   case round =>
    clear hbw0;obtain ⟨j,hj,rfl,HF,hbw⟩:=hrel
    by_cases hlt:j < k
    ·obtain ⟨l,hx⟩:∃ x,fs[j]?=some x:=⟨fs[j]'(by rw [HN.out]; exact hlt),gE _⟩;obtain ⟨b1,off1,al,cl,ea,hc,hcl,hu⟩:=(ua.mono hbw) j l hx;have HF2:Hid (fs.any zbA=(zbA l || (fs.drop (j + 1)).any zbA)):=hii (by rw [HF.out,zdd hx]; rfl);clear HF hx hcl;subst ea
     cases l with
     | nil =>
      have HE3:Hid (E=9):=hii (by rw [HE2.out,HF2.out]; rfl);clear HF2 HE2 hu;rw [List.length_nil] at hc;go_wp2;go_ret;exact ⟨by rw [HE3.out]; rfl,hbw⟩
     | cons x r =>
      obtain ⟨b2,off2,ea2,hc2⟩:=hu 0 x rfl;rw [Nat.add_zero] at hc2;obtain ⟨n,hn⟩:∃ n,(x :: r).length=n:=⟨_,rfl⟩;have hn0:0 < n:=by rw [<- hn]; simp
      rw [hn] at hc;have hnz:((n:Int) == 0)=false:=by simp; omega
      have hni:(0:Int) < (n:Int):=by omega
      clear hu hn;subst ea2
      by_cases hx0:x=0
      ·subst hx0;have HE3:Hid (E=9):=hii (by rw [HE2.out,HF2.out]; rfl);clear HF2 HE2;go_wp2;go_ret;exact ⟨by rw [HE3.out]; rfl,hbw⟩
      ·have hxz:((x:Int) == 0)=false:=by simp; omega
       have HF3:Hid (fs.any zbA=(fs.drop (j + 1)).any zbA):=hii (by rw [HF2.out]; simp [zbA,hx0]);clear HF2;go_wp2;go_roundw
       case rel => exact ⟨j + 1,by omega,by go_num,HF3,hbw⟩
       case measure => simp [intOf]; omega
    ·obtain rfl:j=k:=by omega
     have HE3:Hid (E=0):=hii (by rw [HE2.out,HF.out,List.drop_of_length_le (by rw [HN.out]; exact nl)]; rfl);clear HF HE2;go_wp2;go_ret;exact ⟨by rw [HE3.out]; rfl,hbw⟩
end Go.Proofs.YtfgffkmddanjjaaGreatDoor
