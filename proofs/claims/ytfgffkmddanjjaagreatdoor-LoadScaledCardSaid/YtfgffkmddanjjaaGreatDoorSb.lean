/-
  The simplex method: the number of variables; the entering variable.
-/
import Derived.Test.YtfgffkmddanjjaaGreatDoorSa
set_option linter.unusedVariables false
set_option linter.unusedSimpArgs false
set_option maxRecDepth 100000
set_option maxHeartbeats 25600000
namespace Go.Proofs.YtfgffkmddanjjaaGreatDoor
open _root_.Go.Proofs.Tryz
open Go.RowKit
theorem zcs (g ga ca gb cb m n q:Nat) (hq:q=n + m) (hm:m<=1000) (hn:n<=1000) (w:World) (r:Row w g 164 [.int .i64 (m:Nat),.int .i64 (n:Nat),.slice (some ⟨ga,0,none⟩) (m + 1) ca,.slice (some ⟨gb,0,none⟩) m cb,.int .i64 0]) :
  Calls Tryz.prog 117 #[.pointer (some ⟨g,0,none⟩)] w λ e w' => e=.returned (.int .i64 (q:Nat))/\BH w w':=by
 have eq:((q:Nat):Int)=(n:Int) + (m:Int):=by rw [hq]; simp
 rw [eq];clear eq hq;go_enter func117,ntmps117;go_upto_region 1 with fail;refine zae (wx:=w) [vf (.pointer (some ⟨g,0,none⟩)),vf (.pointer (some ⟨g,0,none⟩)),vf (.pointer (some ⟨g,1,none⟩)),vf (.int .i64 (n:Nat)),vf (.pointer (some ⟨g,0,none⟩)),vf (.pointer (some ⟨g,0,none⟩)),vf (.pointer (some ⟨g,0,none⟩)),vf (.int .i64 (m:Nat)),vf (.int .i64 ((n:Int) + (m:Int))),vf (.int .i64 ((n:Int) + (m:Int)))] [3,4,5,6,7,8,9,10,11,2] (by kernel_rfl) (by kernel_rfl) (by kernel_rfl) (of_decide_eq_true (by kernel_rfl)) br ⟨sV _,sV _,sV _,sV _,sV _,sV _,sV _,sV _,sV _,sV _,trivial⟩ ⟨?s0,?s1,?s2,?s3,?s4,?s5,?s6,?s7,?s8,?s9,trivial⟩ ?he
 case' s0 | s1 | s2 | s3 | s4 | s5 | s6 | s7 | s8 | s9 =>
  rintro T W hb hA K hK
 case' s0 | s4 =>
  simp only [sA] at hK |-
 case' s1 =>
  have e0:T 3=_:=hA.1;simp only [sA,e0] at hK |-
 case' s2 =>
  have e1:T 4=_:=hA.1;simp only [sA,e1] at hK |-
 case' s5 =>
  have e4:T 7=_:=hA.1;simp only [sA,e4] at hK |-
 case' s6 =>
  have e5:T 8=_:=hA.1;simp only [sA,e5] at hK |-
 case' s9 =>
  have e8:T 11=_:=hA.1;simp only [sA,e8] at hK |-
 case' s3 =>
  have e2:T 5=_:=hA.1;simp only [sA,e2] at hK |-;have HK:=hii hK;clear hK hA;obtain ⟨x0,x1,x2,x3,x4⟩:=(r.below hb).n5
 case' s7 =>
  have e6:T 9=_:=hA.1;simp only [sA,e6] at hK |-;have HK:=hii hK;clear hK hA;obtain ⟨x0,x1,x2,x3,x4⟩:=(r.below hb).n5
 case s0 | s1 | s2 | s4 | s5 | s6 | s9 =>
  have HK:=hii hK;clear hK hA;refine wO rfl (by rfl) ?_;go_simp;exact HK.out _ _ br (rfl)
 case s3 | s7 =>
  refine wO rfl (by rfl) ?_;go_simp;exact HK.out _ _ br (rfl)
 case s8 =>
  have e3:T 6=_:=hA.1;have e7:T 10=_:=hA.2.1;simp only [sA,e3,e7] at hK |-;have HK:=hii hK;clear hK hA;refine wO rfl (by rfl) ?_;go_simp;exact HK.out _ _ br ((congrArg (Value.int IntKind.i64) (zhT (by omega))))
 case he =>
  rintro T W hb hA;have f9:T 2=.int .i64 ((n:Int) + (m:Int)):=hA.at 9 (by decide);simp only [sA,f9];clear hA f9;go_wp2;go_ret;exact ⟨rfl,hb⟩
theorem zh4 (v:Value) (r:Rat) (w:World) (h:zac w v r) (hE:Env w) :
  Calls Tryz.prog 177 #[v] w λ e w' => e=.returned (.bool (zlu r))/\BH w w':=by
 have e0:zlu r=decide (zaU r.num < 0):=by rw [zgz]; rfl
 rw [e0];clear e0;obtain ⟨s,hs⟩:∃ s,zaU r.num=s:=⟨_,rfl⟩;rw [hs];have Hs:=hii hs;clear hs;obtain ⟨J1,ao1,n1,Y1,J2,ao2,n2,Y2,rfl⟩:=h.parts;go_enter func177,ntmps177;go_upto_region 1 with fail;have X1:=zaX.new w (.bool J1) (.slice ao1 n1 Y1) (.bool J2) (.slice ao2 n2 Y2) 32;have hb0:=bA w (.cells #[.bool J1,.slice ao1 n1 Y1,.bool J2,.slice ao2 n2 Y2] 32);generalize w.alloc (.cells #[.bool J1,.slice ao1 n1 Y1,.bool J2,.slice ao2 n2 Y2] 32)=v1 at *;have h:=h.mono hb0;have hE:=hE.mono hb0;obtain ⟨x1a,x1b,x1c,x1d,_,_,_,_⟩:=id X1;go_wp2_with fail;go_fit (zbw _ r s v1 Hs h hE);rintro e v2 ⟨rfl,hb⟩;have hbw:=hb0.trans (hb.mono hb0.size);clear hb x1a x1b x1c x1d;go_wp2
 all_goals go_ret
 all_goals exact ⟨by simp_all,hbw⟩
theorem zf6 {B g ga ca gb cb m n q:Nat} {rr cr:Nat->Nat} {L:Nat->Nat->Rat} {bs:Nat->Nat} (w:World) (h:TB w B g ga ca gb cb m n q rr cr L bs) :
  Calls Tryz.prog 155 #[.pointer (some ⟨g,0,none⟩)] w λ e w' => e=.returned (.int .i64 (zgS zgM (zbf L m q)))/\BH w w':=by
 have eg1:∀ args w,(callFunc 177 args).run Tryz.prog w=.ok (.enter 177 args) w:=enters_of func177 (by kernel_rfl) rfl;have hq2:q<=2000:=by have:=h.wq; have:=h.small; omega
 have hcap:q<=cr m:=by have:=h.cap (Nat.le_refl m); omega
 have HI:Hid (∀ W,BH w W->Calls Tryz.prog 144 #[.slice (some ⟨rr m,0,none⟩) q (cr m),.func (.func 177) #[] #[]] W λ e w' => e=.returned (.int .i64 (zgS zgM (zbf L m q)))/\BH W w'):=by
  refine hii λ W hb => ?_
  have h:=h.mono hb;have:=zdC 177 #[] zgM eg1 (zbf L m q) (some ⟨rr m,0,none⟩) (cr m) W (by rw [zal]; omega) (h.uq (Nat.le_refl m) (by omega)) h.Env' (by
   intro o v W2 ho hv hE2 hb2;obtain ⟨r,rfl⟩:∃ r,o=some r:=by
    unfold zbf at ho;obtain ⟨j,_,rfl⟩:=List.mem_map.1 ho;exact ⟨_,rfl⟩
   exact zh4 v r W2 hv hE2)
  rw [zal] at this;exact this
 obtain ⟨z,hz⟩:∃ z,zgS zgM (zbf L m q)=z:=⟨_,rfl⟩;rw [hz] at HI |-;clear hz eg1;obtain ⟨hm,hn⟩:=h.small;have Hq:=hii h.wq;have hxm:(m:Int) < (m:Int) + 1:=by omega
 go_enter func155,ntmps155;go_upto_region 1 with fail;refine zae (wx:=w) [vf (.pointer (some ⟨g,0,none⟩)),vf (.pointer (some ⟨g,0,none⟩)),vf (.pointer (some ⟨g,2,none⟩)),vf (.slice (some ⟨ga,0,none⟩) (m + 1) ca),vf (.pointer (some ⟨g,0,none⟩)),vf (.pointer (some ⟨g,0,none⟩)),vf (.pointer (some ⟨g,0,none⟩)),vf (.int .i64 (m:Nat)),vf (.pointer (some ⟨ga,m,none⟩)),vf (.slice (some ⟨rr m,0,none⟩) (q + 1) (cr m)),vf (.pointer (some ⟨g,0,none⟩)),vf (.int .i64 (q:Nat)),vf (.slice (some ⟨rr m,0,none⟩) q (cr m)),vf (.int .i64 z),vf (.int .i64 z)] [3,4,5,6,7,8,9,10,11,12,13,14,15,16,2] (by kernel_rfl) (by kernel_rfl) (by kernel_rfl) (of_decide_eq_true (by kernel_rfl)) br ⟨sV _,sV _,sV _,sV _,sV _,sV _,sV _,sV _,sV _,sV _,sV _,sV _,sV _,sV _,sV _,trivial⟩ ⟨?s0,?s1,?s2,?s3,?s4,?s5,?s6,?s7,?s8,?s9,?s10,?s11,?s12,?s13,?s14,trivial⟩ ?he
 case' s0 | s1 | s2 | s3 | s4 | s5 | s6 | s7 | s8 | s9 | s10 | s11 | s12 | s13 | s14 =>
  rintro T W hb hA K hK
 case' s0 | s4 | s10 =>
  simp only [sA] at hK |-
 case' s1 =>
  have e0:T 3=_:=hA.1;simp only [sA,e0] at hK |-
 case' s2 =>
  have e1:T 4=_:=hA.1;simp only [sA,e1] at hK |-
 case' s5 =>
  have e4:T 7=_:=hA.1;simp only [sA,e4] at hK |-
 case' s6 =>
  have e5:T 8=_:=hA.1;simp only [sA,e5] at hK |-
 case' s8 =>
  have e3:T 6=_:=hA.1;have e7:T 10=_:=hA.2.1;simp only [sA,e3,e7] at hK |-
 case' s12 =>
  have e9:T 12=_:=hA.1;have e11:T 14=_:=hA.2.1;simp only [sA,e9,e11] at hK |-
 case' s14 =>
  have e13:T 16=_:=hA.1;simp only [sA,e13] at hK |-
 case' s3 =>
  have e2:T 5=_:=hA.1;simp only [sA,e2] at hK |-;have HK:=hii hK;clear hK hA;obtain ⟨x0,x1,x2,x3,x4⟩:=(h.mono hb).box.n5
 case' s7 =>
  have e6:T 9=_:=hA.1;simp only [sA,e6] at hK |-;have HK:=hii hK;clear hK hA;obtain ⟨x0,x1,x2,x3,x4⟩:=(h.mono hb).box.n5
 case' s9 =>
  have e8:T 11=_:=hA.1;simp only [sA,e8] at hK |-;have HK:=hii hK;clear hK hA;have x5:=(h.mono hb).out m (Nat.le_refl m)
 case s0 | s1 | s2 | s4 | s5 | s6 | s8 | s10 | s12 | s14 =>
  have HK:=hii hK;clear hK hA;refine wO rfl (by rfl) ?_;go_simp;exact HK.out _ _ br (rfl)
 case s3 | s7 | s9 =>
  refine wO rfl (by rfl) ?_;go_simp;exact HK.out _ _ br (rfl)
 case s11 =>
  have e10:T 13=_:=hA.1;simp only [sA,e10] at hK |-;have HK:=hii hK;clear hK hA;refine wO rfl (by rfl) ?_;go_simp;go_fit (zcs g ga ca gb cb m n q Hq.out hm hn W (h.mono hb).box);rintro e w1 ⟨rfl,hb1⟩
  try dsimp only
  exact HK.out _ _ hb1 (rfl)
 case s13 =>
  have e12:T 15=_:=hA.1;simp only [sA,e12] at hK |-;have HK:=hii hK;clear hK hA;refine wO rfl (by rfl) ?_;go_simp;go_fit (HI.out W hb);rintro e w1 ⟨rfl,hb1⟩
  try dsimp only
  exact HK.out _ _ hb1 (rfl)
 case he =>
  rintro T W hb hA;have f14:T 2=.int .i64 z:=hA.at 14 (by decide);simp only [sA,f14];clear hA f14;go_wp2;go_ret;exact ⟨rfl,hb⟩
end Go.Proofs.YtfgffkmddanjjaaGreatDoor
