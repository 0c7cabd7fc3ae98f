/-
  A region that draws its order, by an invariant: each operation is met once, under the flags of those that have been carried out.
  The conditions: the region's operations wait only for earlier ones (zjt); the invariant J speaks of the flags, of the values that the operations have left, and of the world.
-/
import Derived.Test.YtfgffkmddanjjaaGreatDoorI5
import Derived.RegionTactic
import Derived.BigRegion
import Derived.Test.YtfgffkmddanjjaaGreatDoorI2
import Derived.Lib.Atoi
import Derived.Lib.SlTrimSet
import Derived.Lib.Strings
import Derived.Shelf.Strings.SlTrimAscii
import Derived.Test.YtfgffkmddanjjaaGreatDoorProg
import Derived.WalkKit
import Derived.Below
import Derived.Test.YtfgffkmddanjjaaGreatDoorShelfB
import Derived.Lib.AtoiErrMem
set_option linter.unusedVariables false
set_option linter.unusedSimpArgs false
set_option maxRecDepth 100000
set_option maxHeartbeats 25600000
namespace Go.Proofs.YtfgffkmddanjjaaGreatDoor
open _root_.Go.Proofs.Tryz
open Go.RowKit
theorem zgF (a b:Value) (x y:Int) (w:World) (ha:zai w a x) (hb:zai w b y) :
  Calls Tryz.prog 33 #[a,b] w λ e w' => zgh w' (x * y) e/\BH w w':=by
 obtain ⟨n1,ao1,L1,c1,rfl,Hn1,HL1,HB1,hc1,hl1,hU1⟩:=ha;obtain ⟨n2,ao2,L2,c2,rfl,Hn2,HL2,HB2,hc2,hl2,hU2⟩:=hb;have Ho1:Hid (Bi.Ok L1):=hii (by rw [HL1.out]; exact Bi.limbs_ok _);have Ho2:Hid (Bi.Ok L2):=hii (by rw [HL2.out]; exact Bi.limbs_ok _);go_enter func33,ntmps33;go_wp2_with fail;obtain ⟨wx,hwx,hsz,B1,B2,B3,hbx⟩:=zcj w (.bool n1) (.slice ao1 L1.length c1) (.bool n2) (.slice ao2 L2.length c2) (.bool false) (.slice none 0 0) 30;rw [<- hwx];clear hwx;have hbd:=hbx.drew;have D1:=B1.mono ((Below.refl wx.heap.size wx).drew);have D2:=B2.mono ((Below.refl wx.heap.size wx).drew);have D3:=B3.mono ((Below.refl wx.heap.size wx).drew);have hX1:=hU1.mono hbd;have hX2:=hU2.mono hbd;clear hU1 hU2;go_region_held3 (λ w' => w'.cell? ⟨w.heap.size,0,none⟩=some (.bool n1)/\w'.cell? ⟨w.heap.size + 1,0,none⟩=some (.bool n2)/\w'.cell? ⟨w.heap.size,1,none⟩=some (.slice ao1 L1.length c1)/\w'.cell? ⟨w.heap.size + 1,1,none⟩=some (.slice ao2 L2.length c2))
  (first | (with_reducible exact ⟨B1.c0,B2.c0,B1.c1,B2.c1⟩) | (with_reducible exact ⟨D1.c0,D2.c0,D1.c1,D2.c1⟩) | (with_reducible exact ⟨E1.c0,E2.c0,E1.c1,E2.c1⟩) | (with_reducible exact ⟨F1.c0,F2.c0,F1.c1,F2.c1⟩) | (simp [F1.c0,F2.c0,F1.c1,F2.c1,go_sem]; done))
  (first
   | (go_at_call 81; ((with_reducible refine (zjO L1 L2 _ _ _ _ _ ?_ ?_ Ho1.out Ho2.out hX1 hX2).mono ?_); (omega); (omega)); rintro e w2 ⟨ao,L,cap,hL,rfl,hcap,hUL,hb2⟩; have HL:=hii hL; clear hL; have E1:=D1.mono hb2; have E2:=D2.mono hb2; have E3:=D3.mono hb2)
   | (go_at_call 80; ((with_reducible refine (zby (!(n1 == n2)) _ _ _ _ ?_ hUL (hii ?_)).mono ?_); (rw [HL.out]; exact Nat.le_trans (Bi.limbs_length_le (Bi.val_mul_lt Ho1.out Ho2.out)) (by omega)); (rw [HL.out]; exact Bi.limbs_ok _)); rintro e w3 ⟨⟨ng,ao3,n3,Y3,k3,rfl,HR⟩,hb3⟩; have F1:=E1.mono hb3; have F2:=E2.mono hb3; obtain ⟨p0,p1,q0,q1⟩:=E3.mono hb3))
 go_wp2;refine bodyPost_ret (v:=.tuple #[.agg #[.bool ng,.slice ao3 n3 Y3],.int .i64 k3]) (by simp [results,Tryz.results33,go_sem,p0,p1]) rfl ⟨⟨ng,ao3,n3,Y3,k3,rfl,hii ?_⟩,?_⟩
 ·have:=HR.out.put2 p0 p1 (.bool ng) (.slice ao3 n3 Y3);rw [HL.out,Bi.val_limbs,HL1.out,HL2.out,Bi.val_limbs,Bi.val_limbs] at this;have h4:sgn (!(n1 == n2)) (x.natAbs * y.natAbs)=x * y:=by
   have e1:=zbQ x n1 Hn1.out;have e2:=zbQ y n2 Hn2.out;rw [<- e1,<- e2,zam,zam];unfold sgn
   cases n1 <;> cases n2 <;> simp [Int.mul_neg,Int.neg_mul]
  rw [h4] at this;exact this
 ·exact Below.put2 (Below.step (bu hbd hb2) hb3 nl) (by omega) _ _
theorem zjT (a b:Value) (x y:Int) (w:World) (ha:zai w a x) (hb:zai w b y) (hy0:Hid (y ≠ 0)) :
  Calls Tryz.prog 83 #[a,b] w λ e w' => zod w' (x.tdiv y) (x.tmod y) e/\BH w w':=by
 obtain ⟨n1,ao1,L1,c1,rfl,Hn1,HL1,HB1,hc1,hl1,hU1⟩:=ha;obtain ⟨n2,ao2,L2,c2,rfl,Hn2,HL2,HB2,hc2,hl2,hU2⟩:=hb;have hL2:0 < L2.length:=by
  rcases Nat.eq_zero_or_pos L2.length with h | h
  ·have h2:=HL2.out;rw [List.length_eq_zero_iff.1 h] at h2;have:=Bi.limbs_eq_nil.1 h2.symm;have:=hy0.out;omega
  ·exact h
 have hLz:((L2.length:Int) == 0)=false:=by rw [beq_eq_false_iff_ne]; omega
 go_enter func83,ntmps83;go_wp2_with fail;obtain ⟨wx,hwx,hsz,B1,B2,B3,B4,hbx⟩:=zkU w (.bool n1) (.slice ao1 L1.length c1) (.bool n2) (.slice ao2 L2.length c2) (.bool false) (.slice none 0 0) (.bool false) (.slice none 0 0) 30;rw [<- hwx];clear hwx;obtain ⟨w1,rfl⟩:=exi wx;have hbw:=hbx;have hX1:=hU1.mono hbw;have hX2:=hU2.mono hbw;have hlt4:=B4.lt;clear hU1 hU2 hsz;obtain ⟨a0,a1,_,_⟩:=B1;obtain ⟨b0,b1,_,_⟩:=B2;go_wp2_with fail;(with_reducible refine (zgA x.natAbs y.natAbs L1 L2 HL1 HL2 ao1 ao2 c1 c2 w1 ?_ ?_ ?_ hX1 hX2).mono ?_)
 ·omega
 ·omega
 ·have:=hy0.out; omega
 rintro e w2 ⟨⟨a3,a4,Q,R,c3,c4,HQ,HR,hc3,hc4,rfl,HU3,HU4⟩,hb2⟩;have hq34:Q.length<=34:=by rw [HQ.out]; exact zat (Nat.lt_of_le_of_lt (Nat.div_le_self _ _) HB1.out)
 have hr34:R.length<=34:=by rw [HR.out]; exact zat (Nat.lt_of_le_of_lt (Nat.mod_le _ _) HB1.out)
 have a0:w2.cell? ⟨w.heap.size,0,none⟩=some (.bool n1):=(hb2.cell (p:=⟨w.heap.size,0,none⟩) (by simp only; omega)).trans a0;have b0:w2.cell? ⟨w.heap.size + 1,0,none⟩=some (.bool n2):=(hb2.cell (p:=⟨w.heap.size + 1,0,none⟩) (by simp only; omega)).trans b0;have B3:=B3.mono hb2;have B4:=B4.mono hb2;have hbw2:=bu hbw hb2;have hlt4:=B4.lt;clear a1 b1 hX1 hX2;go_wp2_with fail;(with_reducible refine (zby (!(n1 == n2)) Q a3 c3 w2 ?_ HU3.out (hii ?_)).mono ?_)
 ·omega
 ·rw [HQ.out]; exact Bi.limbs_ok _
 rintro e w3 ⟨⟨ng,ao3,n3,Y3,k3,rfl,HR3⟩,hb3⟩;have HV3:Hid (zai w3 (.agg #[.bool ng,.slice ao3 n3 Y3]) (x.tdiv y)):=hii (by
  have h:=HR3.out;have h1:Bi.val Q=x.natAbs / y.natAbs:=by rw [HQ.out,Bi.val_limbs]
  rw [h1,zgx x y n1 n2 Hn1.out Hn2.out] at h;rcases h with ⟨_,_,h⟩ | ⟨h,_⟩
  ·exact h
  ·exact absurd (by rw [Int.natAbs_tdiv]; exact Nat.lt_of_le_of_lt (Nat.div_le_self _ _) HB1.out) h)
 have a0:w3.cell? ⟨w.heap.size,0,none⟩=some (.bool n1):=(hb3.cell (p:=⟨w.heap.size,0,none⟩) (by simp only; omega)).trans a0;have B3:=B3.mono hb3;have B4:=B4.mono hb3;have hbw3:=bu hbw2 hb3;have hlt4:=B4.lt;have hU4:=HU4.out.mono hb3;clear b0 HR3;have hlt0:w.heap.size < w3.heap.size:=by omega
 go_wp2_with fail;have X1:=Box.new w3 (.bool ng) (.slice ao3 n3 Y3) 30;have hba:=bA w3 (.cells #[.bool ng,.slice ao3 n3 Y3] 30);have hsza:(w3.alloc (.cells #[.bool ng,.slice ao3 n3 Y3] 30)).heap.size=w3.heap.size + 1:=by simp
 generalize w3.alloc (.cells #[.bool ng,.slice ao3 n3 Y3] 30)=w4 at *;have B3:=B3.mono hba;have B4:=B4.mono hba;have hbw4:=bu hbw3 hba;have hU4:=hU4.mono hba;have HV4:=hii (HV3.out.mono hba);(with_reducible refine (zby n1 R a4 c4 w4 ?_ hU4 (hii ?_)).mono ?_)
 ·omega
 ·rw [HR.out]; exact Bi.limbs_ok _
 rintro e w5 ⟨⟨J5,ao5,n5,Y5,k5,rfl,HR5⟩,hb5⟩;have HW5:Hid (zai w5 (.agg #[.bool J5,.slice ao5 n5 Y5]) (x.tmod y)):=hii (by
  have h:=HR5.out;have h1:Bi.val R=x.natAbs % y.natAbs:=by rw [HR.out,Bi.val_limbs]
  rw [h1,zgw x y n1 Hn1.out] at h;rcases h with ⟨_,_,h⟩ | ⟨h,_⟩
  ·exact h
  ·exact absurd (by rw [Int.natAbs_tmod]; exact Nat.lt_of_le_of_lt (Nat.mod_le _ _) HB1.out) h)
 have B3:=B3.mono hb5;have B4:=B4.mono hb5;have X1:=X1.mono hb5;have hbw5:=bu hbw4 hb5;have HV5:=hii (HV4.out.mono hb5);have hlt5:w3.heap.size < w5.heap.size:=by have:=hb5.size; omega
 clear a0 HR5 hU4 hlt0;go_upto_region 6 with fail;have X2:=Box.new w5 (.bool J5) (.slice ao5 n5 Y5) 30;have hba5:=bA w5 (.cells #[.bool J5,.slice ao5 n5 Y5] 30);have hszb:(w5.alloc (.cells #[.bool J5,.slice ao5 n5 Y5] 30)).heap.size=w5.heap.size + 1:=by simp
 generalize w5.alloc (.cells #[.bool J5,.slice ao5 n5 Y5] 30)=w6 at *;have B3:=B3.mono hba5;have B4:=B4.mono hba5;have X1:=X1.mono hba5;have hbw6:=bu hbw5 hba5;have HV6:=hii (HV5.out.mono hba5);have HW6:=hii (HW5.out.mono hba5);have hlt3:=B4.lt;obtain ⟨p0,p1,q0,q1⟩:=B3;obtain ⟨r0,r1,s0,s1⟩:=B4;obtain ⟨x0,x1,_,_⟩:=X1;obtain ⟨y0,y1,_,_⟩:=X2;have hne1:w.heap.size + 1 + 1 < w3.heap.size:=by omega
 have hne2:w.heap.size + 1 + 1 + 1 < w3.heap.size:=by omega
 clear hsza hszb hbw3 hbw4 hbw5 hba hba5;go_region;go_wp2;have r0':∀ u v,((w6.setCell ⟨w.heap.size + 1 + 1,0,none⟩ u).setCell ⟨w.heap.size + 1 + 1,1,none⟩ v).cell? ⟨w.heap.size + 1 + 1 + 1,0,none⟩=some (.bool false):=λ u v => by
  rw [World.cell?_setCell_other _ _ _ _ (by simp),World.cell?_setCell_other _ _ _ _ (by simp)]; exact r0
 have r1':∀ u v,((w6.setCell ⟨w.heap.size + 1 + 1,0,none⟩ u).setCell ⟨w.heap.size + 1 + 1,1,none⟩ v).cell? ⟨w.heap.size + 1 + 1 + 1,1,none⟩=some (.slice none 0 0):=λ u v => by
  rw [World.cell?_setCell_other _ _ _ _ (by simp),World.cell?_setCell_other _ _ _ _ (by simp)]; exact r1
 have R0:=hii r0';have R1:=hii r1';clear r0' r1';refine bodyPost_ret (v:=.tuple #[.agg #[.bool ng,.slice ao3 n3 Y3],.agg #[.bool J5,.slice ao5 n5 Y5],.int .i64 0]) (by simp [results,Tryz.results83,go_sem,p0,p1,r0,r1]) rfl ⟨⟨ng,ao3,n3,Y3,J5,ao5,n5,Y5,rfl,hii ?_,hii ?_⟩,?_⟩
 ·exact ((HV6.out.put2 p0 p1 _ _).put2 (R0.out _ _) (R1.out _ _) _ _).mono (br.drew)
 ·exact ((HW6.out.put2 p0 p1 _ _).put2 (R0.out _ _) (R1.out _ _) _ _).mono (br.drew)
 ·exact (Below.put2 (Below.put2 hbw6 (by omega) _ _) (by omega) _ _).drew
theorem zeq (a b:Value) (x y:Int) (w:World) (ha:zai w a x) (hb:zai w b y) :
  Calls Tryz.prog 79 #[a,b] w λ e w' => (∃ (ng:Bool) (ao:Option Addr) (n cap:Nat),e=.returned (.agg #[.bool ng,.slice ao n cap])/\Hid (zai w' (.agg #[.bool ng,.slice ao n cap]) ((Int.gcd x y:Nat):Int)))/\BH w w':=by
 obtain ⟨n1,ao1,L1,c1,rfl,Hn1,HL1,HB1,hc1,hl1,hU1⟩:=ha;obtain ⟨n2,ao2,L2,c2,rfl,Hn2,HL2,HB2,hc2,hl2,hU2⟩:=hb;go_enter func79,ntmps79;go_wp2_with fail;obtain ⟨wx,hwx,hsz,B1,B2,B3,hbx⟩:=zcj w (.bool n1) (.slice ao1 L1.length c1) (.bool n2) (.slice ao2 L2.length c2) (.bool false) (.slice none 0 0) 30;rw [<- hwx];clear hwx;obtain ⟨a0,a1,_,_⟩:=B1;obtain ⟨b0,b1,_,_⟩:=B2;go_quiet (fail);have hbq:=below_drewN (Below.refl wx.heap.size wx) nq;have B3:=B3.mono hbq;have hbw3:=below_drewN hbx nq;have hU3:=hU1.mono hbw3;have hU4:=hU2.mono hbw3;clear a0 a1 b0 b1 hU1 hU2 hsz hbq;generalize wx.drewN nq=w3 at *;go_wp2_with fail;go_loopg [5,6] (y.natAbs) (λ gk s7 s8 wr => ∃ (X Y:Nat) (L M:List Nat) (a5 a6:Option Addr) (c5 c6:Nat),Y<=gk/\s7=.slice a5 L.length c5/\s8=.slice a6 M.length c6/\Hid (L=Bi.limbs X)/\Hid (M=Bi.limbs Y)/\Hid (Nat.gcd X Y=Int.gcd x y) /\
   Hid (X < Bi.Big/\Y < Bi.Big)/\U wr a5 L/\U wr a6 M/\BH w3 wr)
 case atStart => exact ⟨x.natAbs,y.natAbs,L1,L2,ao1,ao2,c1,c2,nl,rfl,rfl,HL1,HL2,hii rfl,hii ⟨HB1.out,HB2.out⟩,hU3,hU4,br⟩
 case round =>
  clear hU3 hU4;obtain ⟨X,Y,L,M,a5,a6,c5,c6,hY,rfl,rfl,HL,HM,HG,HXY,hUL,hUM,hbr⟩:=hrel;have hl5:L.length<=34:=by rw [HL.out]; exact zat HXY.out.1
  have hl6:M.length<=34:=by rw [HM.out]; exact zat HXY.out.2
  by_cases hM0:M=[]
  ·have hY0:Y=0:=Bi.limbs_eq_nil.1 (by rw [<- HM.out]; exact hM0);subst hM0;subst hY0;have hbr0:=bu hbw3 hbr;have F4:=B3.mono hbr;clear hUM hl6;go_wp2_with fail;(with_reducible refine (zby false L a5 c5 wr ?_ hUL (hii ?_)).mono ?_)
   ·omega
   ·rw [HL.out]; exact Bi.limbs_ok _
   rintro e w5 ⟨⟨ng,ao3,n3,Y3,k3,rfl,HR⟩,hb5⟩;have hB:=F4.mono hb5;have hlt:=hB.lt;obtain ⟨p0,p1,q0,q1⟩:=hB;have hV:Hid (zai w5 (.agg #[.bool ng,.slice ao3 n3 Y3]) ((Int.gcd x y:Nat):Int)):=hii (by
    have e1:sgn false (Bi.val L)=((Int.gcd x y:Nat):Int):=by rw [HL.out,Bi.val_limbs,<- HG.out]; simp [sgn]
    rw [e1] at HR;rcases HR.out with ⟨_,_,h⟩ | ⟨h,_⟩
    ·exact h
    ·refine absurd ?_ h;rw [Int.natAbs_natCast,<- HG.out];exact ziE HXY.out.1 HXY.out.2)
   go_wp2;refine bodyPost_ret (v:=.agg #[.bool ng,.slice ao3 n3 Y3]) (by simp [results,Tryz.results79,go_sem,p0,p1,hlt]) rfl ⟨⟨ng,ao3,n3,Y3,rfl,hii ((hV.out.put2 p0 p1 _ _).mono (bA _ _))⟩,?_⟩;refine (Below.put2 (bu hbr0 hb5) (by omega) _ _).alloc ?_ _;have:=hb5.size; have:=hbr.size; have:=hbw3.size; simp [World.setCell]; omega
  ·have hM1:0 < M.length:=List.length_pos_iff.2 hM0;have hY1:0 < Y:=by
    rcases Nat.eq_zero_or_pos Y with h | h
    ·exact absurd (by rw [HM.out,h]; rfl) hM0
    ·exact h
   clear hM0;go_wp2_with fail;(with_reducible refine (zgA X Y L M HL HM a5 a6 c5 c6 wr ?_ ?_ hY1 hUL hUM).mono ?_)
   ·omega
   ·omega
   rintro e w5 ⟨⟨a7,a8,Q,R,c7,c8,HQ,HR,hc7,hc8,rfl,HU7,HU8⟩,hb5⟩;have hUM5:=hUM.mono hb5;have hUR:=HU8.out;have hlt:=Nat.mod_lt X hY1;clear hUL hUM;go_wp2;go_roundg (X % Y)
   case measure => omega
   case rel => exact ⟨Y,X % Y,M,R,a6,a8,c6,c8,nl,rfl,rfl,HM,HR,hii (by rw [<- HG.out]; exact zgU X Y),hii ⟨HXY.out.2,Nat.lt_trans hlt HXY.out.2⟩,hUM5,hUR,bu hbr hb5⟩
def znX (P:Prop) (e:Ending):Prop:=∃ r:Bool,Hid (r=true↔P)/\e=.returned (.bool r)
theorem zd1 {l:List Nat} {x:Nat} (hx:l[l.length - 1]?=some x):∃ r,l=r ++ [x]:=by
 rcases List.eq_nil_or_concat l with h | ⟨r,y,h⟩
 ·subst h; simp at hx
 ·rw [List.concat_eq_append] at h;subst h;simp at hx;exact ⟨r,by rw [hx]⟩
theorem zhn (neg:Bool) (l:List Nat) (ao:Option Addr) (cap:Nat) (w:World) (hm:l.length<=1000000000) (hU:U w ao l) :
  Calls Tryz.prog 77 #[.agg #[.bool neg,.slice ao l.length cap]] w λ e w' => znX (zaC neg l) e/\BH w w':=by
 go_enter func77,ntmps77;go_wp2_with fail;have hbx:=bA w (.cells #[.bool neg,.slice ao l.length cap] 30);have B1:=Box.new w (.bool neg) (.slice ao l.length cap) 30;have hUx:=hU.mono hbx;clear hU;generalize w.alloc (.cells #[.bool neg,.slice ao l.length cap] 30)=wx at *;obtain ⟨a0,a1,_,_⟩:=B1;go_loop [3] (λ s => ∃ k:Nat,k<=l.length/\s=.int .i64 k/\Hid (Bi.Ok (l.take k))) (λ s => l.length - (intOf s).toNat)
 case atStart => exact ⟨0,Nat.zero_le _,rfl,hii (by simp [Bi.Ok])⟩
 case round =>
  obtain ⟨k,hk,rfl,HK⟩:=hrel
  by_cases hlt:k < l.length
  ·obtain ⟨x,hx⟩:=zaj hlt;obtain ⟨b,off,rfl,hc⟩:=hUx.at' hx;have HX:=hii hx;clear hx hUx
   by_cases hs:(1000000000:Int)<=(x:Int)
   ·have hno:¬ zaC neg l:=by
     intro h;unfold zaC at h;rw [if_neg (by rintro rfl; simp at hlt)] at h;have:=h.1.at' HX.out;omega
    have HNO:=hii hno;clear hno;go_wp2;go_ret;exact ⟨⟨false,hii (by simp [HNO.out]),rfl⟩,hbx⟩
   ·go_wp2;go_round
    case rel =>
     refine ⟨k + 1,by omega,by go_num,hii ?_⟩;have h1:l[k]'hlt=x:=(List.getElem?_eq_some_iff.1 HX.out).2;rw [List.take_succ_eq_append_getElem hlt,h1];exact HK.out.snoc (by omega)
    case measure => simp [intOf]; omega
  ·obtain rfl:k=l.length:=by omega
   have HO:Hid (Bi.Ok l):=hii (by have:=HK.out; rwa [List.take_length] at this);clear HK
   by_cases hl0:l=[]
   ·subst hl0;clear hUx;go_wp2;go_ret;exact ⟨⟨_,hii (by simp [zaC]),rfl⟩,hbx⟩
   ·have hl1:0 < l.length:=List.length_pos_iff.2 hl0;have hlz:((l.length:Int) == 0)=false:=by rw [beq_eq_false_iff_ne]; omega
    obtain ⟨x,hx⟩:=zaj (l:=l) (k:=l.length - 1) (by omega);obtain ⟨b,off,rfl,hc⟩:=hUx.at' hx;have HV:Hid (zaC neg l↔Bi.Ok l/\x ≠ 0/\Bi.val l < Bi.Big):=hii (by
     obtain ⟨r,rfl⟩:=zd1 hx;exact zdQ)
    have HS:=hii (zd1 hx);clear hx hl0
    by_cases hx0:x=0
    ·subst hx0;clear hUx;go_wp2;go_ret;exact ⟨⟨false,hii (by rw [HV.out]; simp),rfl⟩,hbx⟩
    ·have hxb:((x:Int) != 0)=true:=by rw [bne_iff_ne]; omega
     have HL:Hid (l=Bi.limbs (Bi.val l)):=hii (by
      obtain ⟨r,hr⟩:=HS.out;have ho:=HO.out;rw [hr] at ho |-;exact zd9 ho hx0)
     go_wp2_with fail;(with_reducible refine (zdm _ l HL _ _ _ ?_ hUx).mono ?_)
     ·omega
     rintro e w2 ⟨⟨d,HD,hd,rfl⟩,rfl⟩;clear hUx;go_wp2;go_ret;refine ⟨⟨_,hii ?_,rfl⟩,hbx⟩;rw [HV.out,<- Bi.dlen_le,<- HD.out];simp [HO.out,hx0];omega
end Go.Proofs.YtfgffkmddanjjaaGreatDoor
namespace Bi
open Go
end Bi
namespace Go.Proofs.YtfgffkmddanjjaaGreatDoor
open _root_.Go.Proofs.Tryz
open Go.RowKit
theorem zlC (a b:Value) (x y:Int) (w:World) (ha:zai w a x) (hb:zai w b y) :
  Calls Tryz.prog 35 #[a,b] w λ e w' => e=.returned (.bool (decide (x=y)))/\BH w w':=by
 obtain ⟨n1,ao1,L1,c1,rfl,Hn1,HL1,HB1,hc1,hl1,hU1⟩:=ha;obtain ⟨n2,ao2,L2,c2,rfl,Hn2,HL2,HB2,hc2,hl2,hU2⟩:=hb;refine (ziH n1 n2 L1 L2 ao1 ao2 c1 c2 w (by omega) (by omega) hU1 hU2).mono ?_;rintro e w' ⟨⟨r,HR,rfl⟩,hb⟩;refine ⟨zc8 ?_,hb⟩;have h:=HR.out;have e1:=zbQ x n1 Hn1.out;have e2:=zbQ y n2 Hn2.out
 by_cases hxy:x=y
 ·subst hxy;rw [h.2 ⟨by rw [Hn1.out,Hn2.out],by rw [HL1.out,HL2.out]⟩]; simp
 ·cases r with
  | false => simp [hxy]
  | true =>
   obtain ⟨h1,h2⟩:=h.1 rfl;rw [HL1.out,HL2.out] at h2;have:=Bi.limbs_inj h2;rw [<- e1,<- e2,h1,this] at hxy;exact absurd rfl hxy
theorem zi2 {k:Nat} (h:k<=9223372036854775808):k < Bi.Big:=zdk h
def zjn (w:World) (v:Value):Prop :=
 ∃ (neg:Bool) (ao:Option Addr) (l:List Nat) (cap:Nat),v=.agg #[.bool neg,.slice ao l.length cap]/\l.length<=9223372036854775807/\U w ao l/\Hid (∀ x∈l,x < 4294967296)
theorem zjn.mono {w w':World} {v:Value} (h:zjn w v) (hb:BH w w'):zjn w' v:=by
 obtain ⟨neg,ao,l,cap,e,h1,h2,h3⟩:=h;exact ⟨neg,ao,l,cap,e,h1,h2.mono hb,h3⟩
theorem zai.parts {w:World} {v:Value} {z:Int} (h:zai w v z):∃ (ng:Bool) (ao:Option Addr) (n cap:Nat),v=.agg #[.bool ng,.slice ao n cap]:=by
 obtain ⟨neg,ao,L,cap,e,_⟩:=h;exact ⟨neg,ao,_,cap,e⟩
theorem zbO (v:Value) (z:Int) (w:World) (h:zai w v z) (hE:Env w) :
  Calls Tryz.prog 121 #[v] w λ e w' => e=.returned (.bool true)/\BH w w':=by
 obtain ⟨n1,ao1,L1,c1,rfl,Hn1,HL1,HB1,hc1,hl1,hU1⟩:=h;refine (zbU n1 L1 ao1 c1 w (by omega) hU1 hE).mono ?_;rintro e w' ⟨⟨r,HR,rfl⟩,hb⟩;exact ⟨by rw [HR.out.2 (zay z n1 L1 Hn1.out HL1.out HB1.out)],hb⟩
theorem zjk.some {w:World} {z:Int} {v:Value} {k:Int} (h:zjk w z v k):∃ y,zai w v y/\(y=if z.natAbs < Bi.Big then z else 0)/\k=if z.natAbs < Bi.Big then 0 else 3:=by
 rcases h with ⟨h1,h2,h3⟩ | ⟨h1,h2,h3⟩
 ·exact ⟨z,h3,by rw [if_pos h1],by rw [if_pos h1]; exact h2⟩
 ·exact ⟨0,by rw [h3]; exact zai.zero _,by rw [if_neg h1],by rw [if_neg h1]; exact h2⟩
theorem Box.set2 {w:World} {n:Nat} {x y:Value} (h:Box w n x y) (u v:Value):Box ((w.setCell ⟨n,0,none⟩ u).setCell ⟨n,1,none⟩ v) n u v:=by
 have h0:=h.c0;have h1:=h.c1;have h2:=h.f0;have h3:=h.f1;exact ⟨by simp [h0,go_sem],by simp [h1,go_sem],by simp [h2,go_sem],by simp [h3,go_sem]⟩
theorem zai.small {w:World} {v:Value} {z:Int} (h:zai w v z):z.natAbs < Bi.Big:=by
 obtain ⟨_,_,_,_,_,_,_,hB,_⟩:=h;exact hB.out
theorem zjk.fits {w:World} {z:Int} {v:Value} {k:Int} (h:zjk w z v k) (hz:z.natAbs < Bi.Big):k=0/\zai w v z:=by
 rcases h with ⟨_,h2,h3⟩ | ⟨h1,_⟩
 ·exact ⟨h2,h3⟩
 ·exact absurd hz h1
theorem ziD {x y:Int} (hx:x.natAbs < Bi.Big) (hy:y.natAbs < Bi.Big):(((Int.gcd x y:Nat):Int)).natAbs < Bi.Big:=by
 rw [Int.natAbs_natCast];exact ziE hx hy
theorem zjp (a b:Value) (x y c:Int) (w:World) (hc:Hid (zga x y=c)) (ha:zai w a x) (hb:zai w b y) (hE:Env w) :
  Calls Tryz.prog 97 #[a,b] w λ e w' => e=.returned (.int .i64 c)/\BH w w':=by
 rw [<- hc.out]; exact zmd a b x y w ha hb hE
end Go.Proofs.YtfgffkmddanjjaaGreatDoor
namespace Go
open Go.RowKit
section
variable {P : Program} {ops : Array Oper} {Q : Exit → Act → World → Prop} {md : Region.Mode}
def zde (L:Nat->Prop):List Nat->Prop
 | [] => True
 | d :: r => L d/\zde L r
theorem zde.mem {L:Nat->Prop}:∀ {l:List Nat},(∀ d∈l,L d)->zde L l
 | [],_ => trivial
 | d :: r,h => ⟨h d (by simp),zde.mem λ x hx => h x (by simp [hx])⟩
def zaK (md:Region.Mode) (o:Oper):List Nat:=o.after.toList.filterMap λ e => if Region.binds md e then some e.on else none
def zjt (md:Region.Mode) (ops:Array Oper):Bool:=(List.range ops.size).all λ i => ((ops[i]?).map λ o => (zaK md o).all (λ d => decide (d < i))).getD true
def zaD (p:Nat->Oper->Prop):Nat->List Oper->Prop
 | _,[] => True
 | k,o :: r => p k o/\zaD p (k + 1) r
theorem zaD.get {p:Nat->Oper->Prop}:∀ {l:List Oper} {k i:Nat} {o:Oper},zaD p k l->l[i]?=some o->p (k + i) o
 | [],_,_,_,_,h => by simp at h
 | x :: r,k,0,o,h,h' => by simp at h'; subst h'; exact h.1
 | x :: r,k,i + 1,o,h,h' => by
  have:=zaD.get (k:=k + 1) (i:=i) h.2 (by simpa using h');rw [show k + (i + 1)=k + 1 + i by omega]; exact this
def On (listed:Array Bool) (i:Nat):Prop:=listed.getD i false=true
theorem zgO:∀ (l:List Bool) (i:Nat),l[i]?=some false->((l.set i true).filter (λ b => !b)).length + 1=(l.filter (λ b => !b)).length
 | [],_,h => by simp at h
 | x :: r,0,h => by simp at h; subst h; simp
 | x :: r,i + 1,h => by
  have:=zgO r i (by simpa using h)
  cases x <;> simp <;> omega
theorem zff:∀ (l:List Bool),(l.filter (λ b => !b)).length=0->∀ i,i < l.length->l[i]?=some true
 | [],_,i,h => by simp at h
 | x :: r,h,i,hi => by
  cases x
  ·simp at h
  ·cases i with
   | zero => rfl
   | succ i => simpa using zff r (by simpa using h) i (by simpa using hi)
theorem zfd {o:Oper} {d:Nat}:d∈zaK md o↔∃ e∈o.after,Region.binds md e=true/\e.on=d:=by
 unfold zaK;simp only [List.mem_filterMap,Array.mem_toList_iff]
 constructor
 ·rintro ⟨e,he,h⟩
  cases hb:Region.binds md e <;> simp [hb] at h
  exact ⟨e,he,hb,h⟩
 ·rintro ⟨e,he,hb,h⟩;exact ⟨e,he,by simp [hb,h]⟩
theorem zbt (ht:zjt md ops=true) {i:Nat} {o:Oper} (ho:ops[i]?=some o) {d:Nat} (hd:d∈zaK md o):d < i:=by
 have hlt:i < ops.size:=(Array.getElem?_eq_some_iff.1 ho).1;have:=(List.all_eq_true.1 ht) i (by simpa using hlt);rw [ho] at this;simp at this;exact this d hd
theorem zdP {I:(Nat->Prop)->Act->World->Prop} (ht:zjt md ops=true)
  (hs:zaD (λ i o => ∀ L a w,zde L (zaK md o)->¬ L i->I L a w->wpOp P ops Q i (I (λ j => j=i\/L j)) a w) 0 ops.toList)
  (he:∀ L a w,(∀ i,i < ops.size->L i)->I L a w->Q .normal a w) :
  ∀ (fuel:Nat) (listed:Array Bool) (a:Act) (w:World),listed.size=ops.size->(listed.toList.filter (λ b => !b)).length<=fuel->I (On listed) a w->wpAny P md ops Q fuel listed a w:=by
 have all:∀ (listed:Array Bool),listed.size=ops.size->Region.ready md ops listed=[]->∀ i,i < ops.size->On listed i:=by
  intro listed hsz hr i
  induction i using Nat.strongRecOn with
  | ind i ih =>
   intro hi
   cases hb:listed.getD i false with
   | true => exact hb
   | false =>
    exfalso
    have:i∈Region.ready md ops listed:=by
     rw [mem_ready];refine ⟨?_,ops[i],by simp [hi],?_⟩
     ·have:i < listed.size:=by omega
      simp [this] at hb |-; exact hb
     ·intro e he hbe;have hlt:=zbt (md:=md) ht (i:=i) (o:=ops[i]) (by simp [hi]) (zfd.2 ⟨e,he,hbe,rfl⟩);exact ih e.on hlt (by omega)
    rw [hr] at this
    cases this
 intro fuel
 induction fuel with
 | zero =>
  intro listed a w hsz hl h;have hall:∀ i,i < ops.size->On listed i:=by
   intro i hi;have:=zff listed.toList (by omega) i (by simpa [hsz] using hi);unfold On;have hi':i < listed.size:=by omega
   simp [hi'] at this |-;exact this
  refine ⟨?_,he _ a w hall h⟩
  cases hr:Region.ready md ops listed with
  | nil => rfl
  | cons x r =>
   have hx:x∈Region.ready md ops listed:=by rw [hr]; simp
   rw [mem_ready] at hx;obtain ⟨h0,o,ho,_⟩:=hx;have hlt:x < ops.size:=(Array.getElem?_eq_some_iff.1 ho).1;have:=hall x hlt;unfold On at this;have hi':x < listed.size:=by omega
   simp [hi'] at this h0;rw [this] at h0; cases h0
 | succ fuel ih =>
  intro listed a w hsz hl h;refine ⟨λ hr => he _ a w (all listed hsz hr) h,λ i hi => ?_⟩;rw [mem_ready] at hi;obtain ⟨h0,o,ho,hw⟩:=hi;have hlt:i < ops.size:=(Array.getElem?_eq_some_iff.1 ho).1;have hi':i < listed.size:=by omega
  have hget:listed.toList[i]?=some false:=by
   simp [hi'] at h0 |-; exact h0
  have h1:=zaD.get (i:=i) (o:=o) hs (by simpa using ho);rw [Nat.zero_add] at h1;have h2:=h1 (On listed) a w (zde.mem λ d hd => by
   obtain ⟨e,he1,hb,rfl⟩:=zfd.1 hd;exact hw e he1 hb) (by unfold On; simp [hi'] at h0 |-; exact h0) h
  refine wpOp_mono (λ a' w' h3 => ih _ a' w' (by simpa using hsz) ?_ ?_) h2
  ·have:=zgO listed.toList i hget;rw [Array.toList_setIfInBounds];omega
  ·have:(λ j => j=i\/On listed j)=On (listed.setIfInBounds i true):=by
    funext j
    apply propext
    unfold On
    by_cases hji:j=i
    ·subst hji; simp [hi']
    ·rw [getD_set_ne false (Ne.symm hji)]; simp [hji]
   rw [<- this]; exact h3
def ovr (t:Array Value) (T:Nat->Value):List Nat->Array Value
 | [] => t
 | d :: r => (ovr t T r).setIfInBounds d (T d)
theorem sA:(∀ (t:Array Value) (T:Nat->Value),ovr t T []=t)/\(∀ (t:Array Value) (T:Nat->Value) (d:Nat) (r:List Nat),ovr t T (d :: r)=(ovr t T r).setIfInBounds d (T d))/\(∀ (a:Act) (d:Nat) (v:Value),a.put (some d) v={ a with tmps:=a.tmps.setIfInBounds d v })/\(∀ (a:Act) (v:Value),a.put none v=a)/\(∀ (l:List Value) (i:Nat) (a:Value),l.toArray.setIfInBounds i a=(l.set i a).toArray)/\(∀ (x:Value) (xs:List Value) (a:Value),(x :: xs).set 0 a=a :: xs)/\∀ (x:Value) (xs:List Value) (i:Nat) (a:Value),(x :: xs).set (i + 1) a=x :: xs.set i a :=
 ⟨λ _ _ => rfl,λ _ _ _ _ => rfl,λ _ _ _ => rfl,λ _ _ => rfl,λ l i a => List.setIfInBounds_toArray l i a,λ _ _ _ => rfl,λ _ _ _ _ => rfl⟩
def upd (T:Nat->Value) (d:Nat) (v:Value):Nat->Value:=λ k => if k=d then v else T k
def zbF (T:Nat->Value) (d:Option Nat) (v:Value):Nat->Value :=
 match d with
 | none => T
 | some d => upd T d v
theorem ze9 (t:Array Value) (T:Nat->Value) (d:Nat) (v:Value):∀ (l:List Nat),d ∉ l->ovr t (upd T d v) l=ovr t T l
 | [],_ => rfl
 | x :: r,h => by
  simp only [ovr];rw [ze9 t T d v r (λ h' => h (by simp [h']))];have:x ≠ d:=λ e => h (by simp [e])
  simp [upd,this]
theorem zeu (t:Array Value) (T:Nat->Value) (d:Nat) (v:Value):∀ (l:List Nat),d∈l->(ovr t T l).setIfInBounds d v=ovr t (upd T d v) l
 | [],h => by simp at h
 | x :: r,h => by
  simp only [ovr]
  by_cases hx:x=d
  ·subst hx
   by_cases hr:x∈r
   ·rw [<- zeu t T x v r hr]; simp [upd]
   ·rw [ze9 t T x v r hr]; simp [upd]
  ·have hr:d∈r:=by simpa [Ne.symm hx] using h
   rw [Array.setIfInBounds_comm _ _ hx,zeu t T d v r hr];simp [upd,hx]
theorem zev (t:Array Value):∀ (l:List Nat),ovr t (λ k => t.getD k undef) l=t
 | [] => rfl
 | x :: r => by
  simp only [ovr];rw [zev t r]
  apply Array.ext
  ·simp
  ·intro i h1 h2;rw [Array.getElem_setIfInBounds]
   ·by_cases hx:x=i
    ·subst hx; simp [h2]
    ·simp [hx]
   ·exact h2
def zlF (ops:Array Oper):List Nat:=ops.toList.filterMap (·.dst)
theorem zcd {id:Nat} {a:Act} {w:World} (J:(Nat->Prop)->(Nat->Value)->World->Prop) (ds:List Nat)
  (hm:P.follows .mixedOrders=true) (ht:zjt .any ops=true) (hd:zlF ops=ds)
  (h0:∀ T,J (λ _ => False) T { w with drawn:=w.drawn + 1 })
  (hs:zaD (λ i o => ∀ (L:Nat->Prop) (T:Nat->Value) (w:World),zde L (zaK .any o)->¬ L i->J L T w ->
   ∀ K:Act->World->Prop,(∀ v w',J (λ j => j=i\/L j) (zbF T o.dst v) w'->K (({ a with tmps:=ovr a.tmps T ds }:Act).put o.dst v) w') ->
    wpOp P ops Q i K { a with tmps:=ovr a.tmps T ds } w) 0 ops.toList)
  (he:∀ T w,J (λ i => i < ops.size) T w->Q .normal { a with tmps:=ovr a.tmps T ds } w)
  (hmono:∀ L T w,(∀ i,i < ops.size->L i)->J L T w->J (λ i => i < ops.size) T w):(Code.region id ops true).wp P Q a w:=by
 refine wp_region_any hm (zdP (I:=λ L a' w' => ∃ T,a'={ a with tmps:=ovr a.tmps T ds }/\J L T w') ht ?_ ?_ _ _ _ _ (by simp) (by simp) ?_)
 ·have key:∀ (l:List Oper) (k:Nat),(∀ o∈l,∀ d,o.dst=some d->d∈ds) ->
    zaD (λ i o => ∀ (L:Nat->Prop) (T:Nat->Value) (w:World),zde L (zaK .any o)->¬ L i->J L T w ->
     ∀ K:Act->World->Prop,(∀ v w',J (λ j => j=i\/L j) (zbF T o.dst v) w'->K (({ a with tmps:=ovr a.tmps T ds }:Act).put o.dst v) w') ->
      wpOp P ops Q i K { a with tmps:=ovr a.tmps T ds } w) k l ->
    zaD (λ i o => ∀ L a' w,zde L (zaK .any o)->¬ L i->(∃ T,a'={ a with tmps:=ovr a.tmps T ds }/\J L T w) ->
     wpOp P ops Q i (λ a' w' => ∃ T,a'={ a with tmps:=ovr a.tmps T ds }/\J (λ j => j=i\/L j) T w') a' w) k l:=by
   intro l
   induction l with
   | nil => intro k _ _; trivial
   | cons o r ih =>
    intro k hin h;refine ⟨?_,ih (k + 1) (λ o ho => hin o (by simp [ho])) h.2⟩;rintro L a' w hL hn ⟨T,rfl,hJ⟩;refine h.1 L T w hL hn hJ _ (λ v w' hJ' => ⟨zbF T o.dst v,?_,hJ'⟩)
    cases hdo:o.dst with
    | none => rfl
    | some d =>
     have:=hin o (by simp) d hdo;simp only [Act.put,zbF];rw [zeu _ _ _ _ _ this]
  refine key ops.toList 0 ?_ hs;intro o ho d hdo;rw [<- hd];exact List.mem_filterMap.2 ⟨o,ho,hdo⟩
 ·rintro L a' w hL ⟨T,rfl,hJ⟩;exact he T w (hmono L T w hL hJ)
 ·refine ⟨λ k => a.tmps.getD k undef,by rw [zev],?_⟩;have:On (Array.replicate ops.size false)=λ _ => False:=by
   funext i
   unfold On
   by_cases h:i < ops.size <;> simp [h]
  rw [this];exact h0 _
theorem wO {i:Nat} {o:Oper} {K:Act->World->Prop} {a:Act} {w:World} (hi:ops[i]?=some o) (hw:Region.wanted o (yielded ops a.tmps)=true) (h:o.wp P a w K Q):wpOp P ops Q i K a w:=by
 unfold Go.wpOp;simp only [hi,hw,if_true];exact .inl h
theorem zax {i:Nat} {o:Oper} {K:Act->World->Prop} {a:Act} {w:World} (hi:ops[i]?=some o) (hw:Region.wanted o (yielded ops a.tmps)=false) (h:K (a.put o.dst undef) w):wpOp P ops Q i K a w:=by
 unfold Go.wpOp;simp only [hi,hw];exact h
def zcN (Fs:List (World->Value->Prop)) (ds:List Nat) (T:Nat->Value) (W:World):List Nat->Prop
 | [] => True
 | k :: r => (Fs.getD k λ _ _ => True) W (T (ds.getD k 0))/\zcN Fs ds T W r
theorem zcN.mem {Fs:List (World->Value->Prop)} {ds:List Nat} {T:Nat->Value} {W:World}:∀ {l:List Nat},(∀ k∈l,(Fs.getD k λ _ _ => True) W (T (ds.getD k 0)))->zcN Fs ds T W l
 | [],_ => trivial
 | k :: r,h => ⟨h k (by simp),zcN.mem λ x hx => h x (by simp [hx])⟩
theorem zcN.of {Fs:List (World->Value->Prop)} {ds:List Nat} {T:Nat->Value} {W:World}:∀ {l:List Nat} (k:Nat),zcN Fs ds T W l->k∈l->(Fs.getD k λ _ _ => True) W (T (ds.getD k 0))
 | [],_,_,h => by simp at h
 | x :: r,k,h,hk => by
  rcases List.mem_cons.1 hk with rfl | hk
  ·exact h.1
  ·exact zcN.of k h.2 hk
theorem zcN.at {Fs:List (World->Value->Prop)} {ds:List Nat} {T:Nat->Value} {W:World} {n:Nat} (k:Nat) (h:zcN Fs ds T W (List.range n)) (hk:k < n):(Fs.getD k λ _ _ => True) W (T (ds.getD k 0)) :=
 zcN.of k h (by simpa using hk)
def zgf (F:World->Value->Prop):Prop:=∀ (W W':World) (v:Value),F W v->BH W W'->F W' v
theorem sV (u:Value):zgf (λ _ v => v=u):=λ _ _ _ h _ => h
def znj:List (World->Value->Prop)->Prop
 | [] => True
 | F :: r => zgf F/\znj r
theorem znj.get:∀ {l:List (World->Value->Prop)} (k:Nat),znj l->zgf (l.getD k λ _ _ => True)
 | [],_,_ => λ _ _ _ _ _ => trivial
 | _ :: _,0,h => h.1
 | _ :: r,k + 1,h => znj.get (l:=r) k h.2
theorem zhw:∀ {ds:List Nat} (_:ds.Nodup) {i k:Nat} (_:i < ds.length) (_:k < ds.length) (_:ds.getD i 0=ds.getD k 0),i=k:=by
 intro ds hnd i k hi hk h;rw [List.getD_eq_getElem?_getD,List.getD_eq_getElem?_getD,gE hi,gE hk] at h;simp only [Option.getD_some] at h;exact (List.getElem_inj hnd).1 h
theorem zae {id:Nat} {a:Act} {w wx:World} (Fs:List (World->Value->Prop)) (ds:List Nat)
  (hm:P.follows .mixedOrders=true) (ht:zjt .any ops=true) (hd:ops.toList.map (·.dst)=ds.map some) (hnd:ds.Nodup)
  (hw:BH wx w) (hS:znj Fs)
  (hs:zaD (λ i o => ∀ (T:Nat->Value) (W:World),BH wx W->zcN Fs ds T W (zaK .any o) ->
   ∀ K:Act->World->Prop,(∀ v W',BH W W'->(Fs.getD i λ _ _ => True) W' v->K (({ a with tmps:=ovr a.tmps T ds }:Act).put o.dst v) W') ->
    wpOp P ops Q i K { a with tmps:=ovr a.tmps T ds } W) 0 ops.toList)
  (he:∀ T W,BH wx W->zcN Fs ds T W (List.range ops.size)->Q .normal { a with tmps:=ovr a.tmps T ds } W):(Code.region id ops true).wp P Q a w:=by
 have hlen:ds.length=ops.size:=by
  have:=congrArg List.length hd;simp at this;exact this.symm
 have hdst:∀ (i:Nat) (o:Oper),ops[i]?=some o->i < ds.length/\o.dst=some (ds.getD i 0):=by
  intro i o ho;have hi:i < ops.size:=(Array.getElem?_eq_some_iff.1 ho).1;refine ⟨by omega,?_⟩;have h1:(ops.toList.map (·.dst))[i]?=some o.dst:=by simp [ho]
  rw [hd,List.getElem?_map,gE (by omega)] at h1;simp only [Option.map_some,Option.some.injEq] at h1;rw [<- h1,List.getD_eq_getElem?_getD,gE (by omega)]
  rfl
 refine zcd (λ L T W => BH wx W/\∀ k,k < ops.size->L k->(Fs.getD k λ _ _ => True) W (T (ds.getD k 0))) ds hm ht ?_ (λ T => ⟨hw.drew,λ k _ h => h.elim⟩) ?_ ?_ ?_
 ·unfold zlF;have:∀ (l:List Oper) (ds:List Nat),l.map (·.dst)=ds.map some->l.filterMap (·.dst)=ds:=by
   intro l
   induction l with
   | nil => intro ds h; cases ds <;> simp_all
   | cons o r ih =>
    intro ds h
    cases ds with
    | nil => simp at h
    | cons d ds =>
     simp only [List.map_cons,List.cons.injEq] at h;rw [List.filterMap_cons_some h.1,ih ds h.2]
  exact this _ _ hd
 ·have key:∀ (l:List Oper) (k:Nat),(∀ j o,l[j]?=some o->ops[k + j]?=some o) ->
    zaD (λ i o => ∀ (T:Nat->Value) (W:World),BH wx W->zcN Fs ds T W (zaK .any o) ->
     ∀ K:Act->World->Prop,(∀ v W',BH W W'->(Fs.getD i λ _ _ => True) W' v->K (({ a with tmps:=ovr a.tmps T ds }:Act).put o.dst v) W') ->
      wpOp P ops Q i K { a with tmps:=ovr a.tmps T ds } W) k l ->
    zaD (λ i o => ∀ (L:Nat->Prop) (T:Nat->Value) (w:World),zde L (zaK .any o)->¬ L i->(BH wx w/\∀ k,k < ops.size->L k->(Fs.getD k λ _ _ => True) w (T (ds.getD k 0))) ->
     ∀ K:Act->World->Prop,(∀ v w',(BH wx w'/\∀ k,k < ops.size->(k=i\/L k)->(Fs.getD k λ _ _ => True) w' (zbF T o.dst v (ds.getD k 0)))->K (({ a with tmps:=ovr a.tmps T ds }:Act).put o.dst v) w') ->
      wpOp P ops Q i K { a with tmps:=ovr a.tmps T ds } w) k l:=by
   intro l
   induction l with
   | nil => intro k _ _; trivial
   | cons o r ih =>
    intro k hin h;refine ⟨?_,ih (k + 1) (λ j o' ho => by have:=hin (j + 1) o' (by simpa using ho); rw [show k + 1 + j=k + (j + 1) by omega]; exact this) h.2⟩;rintro L T W hL hn ⟨hb,hJ⟩ K hK;have hko:ops[k]?=some o:=by simpa using hin 0 o rfl
    obtain ⟨hkl,hkd⟩:=hdst k o hko;have hall:∀ d,d∈zaK .any o->L d:=by
     have:∀ l:List Nat,zde L l->∀ d,d∈l->L d:=by
      intro l
      induction l with
      | nil => intro _ d hd; simp at hd
      | cons x r ih =>
       intro h d hd;rcases List.mem_cons.1 hd with rfl | hd
       ·exact h.1
       ·exact ih h.2 d hd
     exact this _ hL
    refine h.1 T W hb (zcN.mem λ d hdw => hJ d (Nat.lt_trans (zbt ht hko hdw) (by omega)) (hall d hdw)) K λ v W' hb' hv => hK v W' ⟨hb.trans (hb'.mono hb.size),?_⟩
    rintro j hj (rfl | hLj)
    ·rw [hkd];simp only [zbF,upd,if_true];exact hv
    ·have hne:ds.getD j 0 ≠ ds.getD k 0:=λ e => by
      have:=zhw hnd (by omega) hkl e;subst this;exact hn hLj
     rw [hkd];simp only [zbF,upd,if_neg hne];exact hS.get j _ _ _ (hJ j hj hLj) hb'
  exact key ops.toList 0 (λ j o ho => by simpa using ho) hs
 ·rintro T W ⟨hb,hJ⟩;exact he T W hb (zcN.mem λ k hk => hJ k (by simpa using hk) (by simpa using hk))
 ·rintro L T W hL ⟨hb,hJ⟩;exact ⟨hb,λ k hk _ => hJ k hk (hL k hk)⟩
end
end Go
namespace Go.Proofs.YtfgffkmddanjjaaGreatDoor
open _root_.Go.Proofs.Tryz
open Go.RowKit
structure zos (R:World->Value->Prop):Prop where
 mono:∀ {W W':World} {v:Value},R W v->BH W W'->R W' v
 put:∀ {W:World} {n:Nat} {v x y:Value},R W v->Box W n (.bool false) (.slice none 0 0)->R ((W.setCell ⟨n,0,none⟩ x).setCell ⟨n,1,none⟩ y) v
def zm7 (W:World) (base:Nat) (R:World->Value->Prop) (st:Prop) (p:Value):Prop :=
 ∃ b,p=.pointer (some ⟨b,0,none⟩)/\base<=b/\b < W.heap.size/\(st->∃ x y,Box W b x y/\R W (.agg #[x,y]))/\(¬ st->Box W b (.bool false) (.slice none 0 0))
theorem zm7.mono {W W':World} {base:Nat} {R:World->Value->Prop} {st:Prop} {p:Value} (hR:zos R) (h:zm7 W base R st p) (hb:BH W W'):zm7 W' base R st p:=by
 obtain ⟨b,e,h1,h2,h3,h4⟩:=h;exact ⟨b,e,h1,Nat.lt_of_lt_of_le h2 hb.size,λ s => by obtain ⟨x,y,B,hr⟩:=h3 s; exact ⟨x,y,B.mono hb,hR.mono hr hb⟩,λ s => (h4 s).mono hb⟩
end Go.Proofs.YtfgffkmddanjjaaGreatDoor
namespace Bi
open Go.Lib (decDigits nDigits)
def zf2:Nat->Nat->List UInt8
 | 0,_ => []
 | k + 1,x => zf2 k (x / 10) ++ [UInt8.ofNat (48 + x % 10)]
theorem zfp:∀ (k n x:Nat),0 < n->x < 10 ^ k->decDigits (n * 10 ^ k + x)=decDigits n ++ zf2 k x
 | 0,n,x,_,h => by
  have:x=0:=by simpa using h
  subst this;simp [zf2]
 | k + 1,n,x,hn,h => by
  have h1:10<=n * 10 ^ (k + 1):=by
   have h2:1<=10 ^ k:=Nat.one_le_pow _ _ (by decide);have h3:1 * 10<=n * 10 ^ (k + 1):=Nat.mul_le_mul hn (by rw [Nat.pow_succ]; omega);omega
  rw [decDigits,dif_neg (by omega)];have e1:(n * 10 ^ (k + 1) + x) / 10=n * 10 ^ k + x / 10:=by
   rw [Nat.pow_succ,<- Nat.mul_assoc];omega
  have e2:(n * 10 ^ (k + 1) + x) % 10=x % 10:=by
   rw [Nat.pow_succ,<- Nat.mul_assoc];omega
  rw [e1,e2,zfp k n (x / 10) hn (by rw [Nat.pow_succ] at h; omega),List.append_assoc]
  rfl
theorem zd2:∀ (k:Nat),zf2 k 0=List.replicate k 48
 | 0 => rfl
 | k + 1 => by
  rw [zf2,Nat.zero_div,zd2 k,List.replicate_succ']
  rfl
theorem zfh:∀ (k x:Nat),1<=k->x < 10 ^ k->List.replicate (k - nDigits x) 48 ++ decDigits x=zf2 k x
 | 0,_,h,_ => by omega
 | k + 1,x,_,h => by
  by_cases hx:x < 10
  ·rw [Go.Lib.nDigits_small hx,Go.Lib.decDigits_one hx,Nat.add_sub_cancel,zf2,Nat.div_eq_of_lt hx,zd2,Nat.mod_eq_of_lt hx]
  ·have hk:1<=k:=by
    apply Nat.le_of_not_lt; intro h0
    have:k=0:=by omega
    subst this;simp at h; omega
   rw [Go.Lib.nDigits_big hx,decDigits,dif_neg hx,Nat.add_sub_add_right,<- List.append_assoc,zfh k (x / 10) hk (by rw [Nat.pow_succ] at h; omega)]
   rfl
theorem zki {n x:Nat} (hn:0 < n) (hx:x < 1000000000):decDigits (x + 1000000000 * n)=decDigits n ++ (List.replicate (9 - nDigits x) 48 ++ decDigits x):=by
 rw [zfh 9 x (by omega) (by simpa using hx),<- zfp 9 n x hn (by simpa using hx)]
 congr 1
 omega
theorem zfl {L:List Nat} {i x:Nat} (hi:i < L.length) (hx:L.getD i 0=x):val (L.drop i)=x + 1000000000 * val (L.drop (i + 1)):=by
 rw [List.drop_eq_getElem_cons hi];rw [List.getD_eq_getElem?_getD,gE hi] at hx;simp only [Option.getD_some] at hx;rw [hx];simp [val]
theorem zkf {n:Nat} {L:List Nat} (h:L=limbs n) {j:Nat} (hj:j < L.length):0 < val (L.drop j):=by
 rcases List.eq_nil_or_concat L with h0 | ⟨r,x,h0⟩
 ·subst h0; simp at hj
 ·rw [List.concat_eq_append] at h0;subst h0;obtain ⟨_,hx,_⟩:=dlen_limbs h;rw [List.drop_append_of_le_length (by simp at hj; omega),val_snoc];have:0 < 1000000000 ^ (r.drop j).length * x:=Nat.mul_pos (Nat.pow_pos (by decide)) (by omega);omega
def outT (L:List Nat) (j:Nat):List UInt8:=if j < L.length then decDigits (val (L.drop j)) else []
theorem outT_len {L:List Nat} (h:val L < Big) (j:Nat):(outT L j).length<=300:=by
 unfold outT
 split
 ·rw [Go.Lib.decDigits_length];have h1:val (L.drop j)<=val L:=by
   clear h
   induction j generalizing L with
   | zero => simp
   | succ i ih =>
    cases L with
    | nil => simp
    | cons x r =>
     have:=ih (L:=r) (by rename_i h; simpa using h);simp only [List.drop_succ_cons,val];omega
  by_cases h0:val (L.drop j)=0
  ·rw [h0,Go.Lib.nDigits_small (by decide)]; decide
  ·have h3:∀ a k:Nat,k=a + a->10 ^ a * 10 ^ a=10 ^ k:=λ a k hk => by rw [hk,Nat.pow_add]
   obtain ⟨k,hk⟩:∃ k:Nat,k=300:=⟨_,rfl⟩;rw [<- hk];exact (nd_le h0).2 (Nat.lt_of_le_of_lt h1 (Nat.lt_of_lt_of_eq h (h3 150 k (by omega))))
 ·simp
theorem outT_last {L:List Nat} {j z:Nat} (hj:j + 1=L.length) (hz:L.getD j 0=z):outT L j=outT L (j + 1) ++ decDigits z:=by
 unfold outT;rw [if_pos (by omega),if_neg (by omega),zfl (by omega) hz,List.drop_eq_nil_of_le (by omega)];simp [val]
theorem outT_step {n:Nat} {L:List Nat} (h:L=limbs n) {j z:Nat} (hj:j + 1 < L.length) (hz:L.getD j 0=z) (hz9:z < 1000000000):outT L j=outT L (j + 1) ++ (List.replicate (9 - nDigits z) 48 ++ decDigits z):=by
 unfold outT;rw [if_pos (by omega),if_pos hj,zfl (by omega) hz,zki (zkf h hj) hz9]
end Bi
namespace Go.Proofs.YtfgffkmddanjjaaGreatDoor
open _root_.Go.Proofs.Tryz
open Go.RowKit
theorem zc0 {T e:TypeId} {B b:Nat} {p:Value} {bs:List Value} {w w':World} (h:Lib.BuilderAtF T e B b p bs w) (hb:BH w w'):Lib.BuilderAtF T e B b p bs w':=by
 have hlt:=h.lt;obtain ⟨hB,v,hbk,hown,hne⟩:=h;refine ⟨hB,v,by rw [hb.block b hlt]; exact hbk,?_,hne⟩;obtain ⟨h1,h2⟩:=hown;refine ⟨h1,h2.imp id ?_⟩;rintro ⟨g,cap,cur,fz,hv,hg,hh,r⟩;have:g < w.heap.size:=by
  by_cases hb:g < w.heap.size
  ·exact hb
  ·rw [Array.getElem?_eq_none (by omega)] at hh; simp at hh
 exact ⟨g,cap,cur,fz,hv,hg,by rw [hb.block g this]; exact hh,r⟩
theorem zci {T e:TypeId} {B b:Nat} {bs:List Value} {w w':World} (h:Lib.IsBuilderF T e B b bs w) (hb:BH w w'):Lib.IsBuilderF T e B b bs w' :=
 h.imp (λ h => zc0 h hb) (λ h => zc0 h hb)
theorem zc3 (a b:List UInt8):Lib.byteCells (a ++ b)=Lib.byteCells a ++ Lib.byteCells b:=by simp [Lib.byteCells]
theorem zfT (c:Nat):Lib.repeatL [48] c=List.replicate c 48:=by
 induction c with
 | zero => rfl
 | succ c ih => simp [Lib.repeatL,ih,List.replicate_succ]
theorem zeE (x:Nat):Lib.itoa (x:Int)=Lib.decDigits x:=by
 unfold Lib.itoa;rw [if_neg (by omega),Int.toNat_natCast]
theorem zlj (c:Nat) (C:Int) (hC:C=(c:Int)) (hc:c<=1000) (w:World) :
  Calls Tryz.prog 191 #[.string ⟨#[48]⟩,.int .i64 C] w λ e w' => e=.returned (.string ⟨(List.replicate c 48).toArray⟩)/\BH w w':=by
 subst hC;have:=Tryz.strings_Repeat ⟨#[48]⟩ c w (by omega) (by show 1 * c<=_; omega);rw [show (⟨#[48]⟩:ByteArray).data.toList=[48] from rfl,zfT] at this;exact this
theorem zdf (B:Nat) (cur s:List UInt8) (w:World) (h:Lib.IsBuilderF 205 5 B B (Lib.byteCells cur) w) (hc:cur.length<=100000) (hs:s.length<=100000) (hB:B<=w.heap.size) :
  Calls Tryz.prog 190 #[.pointer (some ⟨B,0,none⟩),.string ⟨s.toArray⟩] w λ e w' => e=.returned (.tuple #[.int .i64 s.length,.nilIface])/\Lib.IsBuilderF 205 5 B B (Lib.byteCells (cur ++ s)) w'/\Below B w w':=by
 have hsz:(⟨s.toArray⟩:ByteArray).size=s.length:=rfl;refine (Tryz.Builder_WriteString_k B B (Lib.byteCells cur) ⟨s.toArray⟩ w h (by rw [Lib.byteCells_length,hsz]; omega) hB).mono ?_;rintro e w' ⟨he,hb,hw,_⟩;rw [hsz] at he;refine ⟨he,.inr ?_,hw⟩;rw [zc3];exact hb
theorem zhO (a:Value) (x:Int) (w:World) (ha:zai w a x) (hE:Env w) :
  Calls Tryz.prog 187 #[a] w λ e w' => e=.returned (.tuple #[.string ⟨(Lib.itoa x).toArray⟩,.int .i64 0])/\BH w w':=by
 obtain ⟨n1,ao1,L1,c1,rfl,Hn1,HL1,HB1,hc1,hl1,hU1⟩:=id ha;go_enter func187,ntmps187;go_wp2_with fail;have hbx:=bA w (.cells #[.bool n1,.slice ao1 L1.length c1] 30);have B1:=Box.new w (.bool n1) (.slice ao1 L1.length c1) 30;have hsz:(w.alloc (.cells #[.bool n1,.slice ao1 L1.length c1] 30)).heap.size=w.heap.size + 1:=by simp
 have hUx:=hU1.mono hbx;have hEx:=hE.mono hbx;clear hU1 hE ha;generalize w.alloc (.cells #[.bool n1,.slice ao1 L1.length c1] 30)=wx at *;(with_reducible refine (zmT wx _ hsz n1 ao1 L1 c1 hUx ?_ hEx).mono ?_)
 ·omega
 rintro e w1 ⟨⟨r,HR,HR2,rfl⟩,hb1⟩;obtain rfl:r=0:=HR.out.2 (zay x n1 L1 Hn1.out HL1.out HB1.out);clear HR HR2 hsz;have B1:=B1.mono hb1;have hU1:=hUx.mono hb1;have hE1:=hEx.mono hb1;have hbw:=bu hbx hb1;clear hUx hEx hbx hb1;have hlt:=B1.lt;have Hit:Hid (Lib.itoa x=(if n1=true then [45] else []) ++ Lib.decDigits x.natAbs):=hii (by
  unfold Lib.itoa;rw [Hn1.out]
  by_cases h:x < 0
  ·simp [h]
  ·simp [h,show x.toNat=x.natAbs by omega])
 by_cases hL:L1=[]
 ·subst hL;have hx:x.natAbs=0:=by
   have:=congrArg Bi.val HL1.out;rw [Bi.val_limbs] at this;exact this.symm
  have hx0:x=0:=by omega
  subst hx0;have hz:Hid (Lib.itoa 0=[48]):=hii (by
   unfold Lib.itoa;rw [if_neg (by decide),show Int.toNat 0=0 from rfl,Lib.decDigits_one (by decide)]
   rfl)
  obtain ⟨p0,p1,_,_⟩:=B1;clear Hit hx hU1;go_wp2;go_ret2;exact ⟨by rw [hz.out]; rfl,hbw⟩
 have hlen:1<=L1.length:=by
  have:=List.length_pos_iff.2 hL;omega
 have HV:Hid (Bi.val L1=x.natAbs):=hii (by rw [HL1.out,Bi.val_limbs]);have HOK:Hid (Bi.Ok L1):=hii (by rw [HL1.out]; exact Bi.limbs_ok _);have HLen:Hid (∀ j,(Bi.outT L1 j).length<=300):=hii (Bi.outT_len (by rw [HV.out]; exact HB1.out));clear hL;obtain ⟨pre,hpre⟩:∃ pre:List UInt8,pre=if n1=true then [45] else []:=⟨_,rfl⟩
 have HPL:pre.length<=1:=by rw [hpre]; split <;> simp
 rw [<- hpre] at Hit;have HPre:=hii hpre;clear hpre;obtain ⟨p0,p1,_,_⟩:=id B1;go_upto_region 7 with fail;have HIB:=Lib.IsBuilderF.of (Lib.fresh_isBuilder 205 5 w1);have hba:=bA w1 (.cells #[.pointer none,.slice none 0 0] 205);obtain ⟨B,hB⟩:=exi (w1.heap.size);rw [<- hB] at HIB |-;have hBw:B<=(w1.alloc (.cells #[.pointer none,.slice none 0 0] 205)).heap.size:=by rw [hB]; exact hba.size
 have hbB:Below B w1 (w1.alloc (.cells #[.pointer none,.slice none 0 0] 205)):=by rw [hB]; exact hba
 rw [<- hB] at hlt;have HS:Hid (∀ W,Below B w1 W->Env W/\U W ao1 L1/\Box W w.heap.size (.bool n1) (.slice ao1 L1.length c1)/\B<=W.heap.size):=hii (λ W h => by
  have h':=h;rw [hB] at h';exact ⟨hE1.mono h',hU1.mono h',B1.mono h',by rw [hB]; exact h'.size⟩)
 have hw1:=hbw;clear hB;generalize w1.alloc (.cells #[.pointer none,.slice none 0 0] 205)=w2 at *;have B2:=B1.mono hba;clear hE1 hU1 B1 hbw p0 p1 hba;obtain ⟨p0,p1,_,_⟩:=id B2;go_upto_if 19 with fail;go_cut [] (λ wc => Lib.IsBuilderF 205 5 B B (Lib.byteCells pre) wc/\Below B w2 wc)
 case first =>
  have HP:=HPre.out
  cases n1
  ·simp only [Bool.false_eq_true,if_false] at HP;have HP':=hii HP;clear HP;go_wp2_with fail;go_meet;exact ⟨by rw [HP'.out]; exact HIB,br⟩
  ·simp only [if_true] at HP;have HP':=hii HP;clear HP;go_wp2_with fail;go_fit (Tryz.Builder_WriteByte_k B B [] 45 _ HIB (by simp) hBw);rintro e w3 ⟨rfl,hbl,hb3,_⟩;go_wp2_with fail;go_meet;exact ⟨by rw [HP'.out]; exact .inr hbl,hb3⟩
 case rest =>
  obtain ⟨HB0,hb3⟩:=hcut;have hb2:=hbB.trans hb3;clear hb3 hbB HIB hBw B2 p0 p1;obtain ⟨hEc,hUc,hBc,hsc⟩:=HS.out wc hb2;obtain ⟨p0,p1,_,_⟩:=hBc;clear hEc hUc hsc;go_wp2_with fail;clear p0 p1;go_loopw [6,7] (λ s6 _ wr => ∃ i:Int,-1<=i/\i < L1.length/\s6=.int .i64 i/\Lib.IsBuilderF 205 5 B B (Lib.byteCells (pre ++ Bi.outT L1 (i + 1).toNat)) wr/\Below B w1 wr) (λ s6 _ _ => (intOf s6 + 1).toNat)
  case atStart =>
   refine ⟨(L1.length:Int) - 1,by omega,by omega,rfl,?_,hb2⟩;have h1:((L1.length:Int) - 1 + 1).toNat=L1.length:=by omega
   rw [h1];unfold Bi.outT;rw [if_neg (by omega),List.append_nil];exact HB0
  case round =>
   obtain ⟨i,hi1,hi2,rfl,HBi,hbr⟩:=hrel;obtain ⟨hEr,hUr,hBr,hsr⟩:=HS.out wr hbr;obtain ⟨p0,p1,_,_⟩:=hBr
   by_cases hi:i < 0
   ·obtain rfl:i=-1:=by omega
    clear hEr hUr HB0 hb2;go_wp2_with fail;go_fit (Tryz.Builder_String_any_f B B (pre ++ Bi.outT L1 ((-1:Int) + 1).toNat) _ HBi hsr);rintro e w4 ⟨rfl,_,hb4⟩;have HR:Hid (pre ++ Bi.outT L1 ((-1:Int) + 1).toNat=Lib.itoa x):=hii (by
     rw [Hit.out,show ((-1:Int) + 1).toNat=0 from rfl];unfold Bi.outT;rw [if_pos (by omega),List.drop_zero,HV.out])
    have hfin:=hw1.trans ((hbr.trans hb4).mono (Nat.le_of_lt hlt));clear HBi p0 p1;go_wp2;go_ret2;exact ⟨by rw [<- HR.out]; rfl,hfin⟩
   ·obtain ⟨j,rfl⟩:∃ j:Nat,i=(j:Int):=⟨i.toNat,by omega⟩;obtain ⟨z,hz⟩:=zaj (l:=L1) (k:=j) (by omega);obtain ⟨b1,o1,rfl,hcz⟩:=hUr.at' hz;have bz:=HOK.out.at' hz;have HZ:=hii (Bi.getD_of hz);clear hz hUr HB0 hb2;go_wp2_with fail;go_fit (zgQ (z:Int) (by omega) (by omega) _ hEr);rintro e w3 ⟨rfl,hb3⟩;have HB3:=zci HBi hb3;have hbr3:=hbr.trans (hb3.mono hsr);obtain ⟨hE3,_,hBr3,hs3⟩:=HS.out w3 hbr3;clear HBi hb3 hbr hEr hsr p0 p1 hcz;obtain ⟨p0,p1,_,_⟩:=hBr3;have hjj:((j:Int) + 1).toNat=j + 1:=by omega
    rw [hjj] at HB3;have hl9:=Bi.nd_small bz;have hlz:=Go.Lib.decDigits_length z;have HO:=HLen.out (j + 1);obtain ⟨cur,hcur⟩:∃ cur,cur=Bi.outT L1 (j + 1):=⟨_,rfl⟩;rw [<- hcur] at HB3 HO;have hlc:(pre ++ cur).length<=301:=by rw [List.length_append]; omega
    by_cases hj:j + 1 < L1.length
    ·have hst:=Bi.outT_step HL1.out hj HZ.out bz;rw [zeE];rw [<- hlz,<- hcur] at hst;generalize Lib.decDigits z=S at *;have HST:=hii hst;have hS9:S.length<=9:=by omega
     have hc1:(j:Int) < (L1.length:Int) - 1:=by omega
     clear hst hcur hlz hl9 hjj HO;go_wp2_with fail;go_fit (zlj (9 - S.length) _ (by omega) (by omega) w3);rintro e w4 ⟨rfl,hb4⟩;have HB4:=zci HB3 hb4;have hbr4:=hbr3.trans (hb4.mono hs3);have hs4:=(HS.out w4 hbr4).2.2.2;clear HB3 hb4 hbr3 hs3 p0 p1 hE3;have hzl:(List.replicate (9 - S.length) (48:UInt8)).length<=9:=by simp
     generalize List.replicate (9 - S.length) (48:UInt8)=Z at *;go_wp2_with fail;go_fit (zdf B (pre ++ cur) Z w4 HB4 (by omega) (by omega) hs4);rintro e w5 ⟨rfl,HB5,hb5⟩;have hbr5:=hbr4.trans hb5;have hs5:=(HS.out w5 hbr5).2.2.2;have hlc5:(pre ++ cur ++ Z).length<=310:=by rw [List.length_append]; omega
     clear HB4 hb5 hbr4 hs4;go_wp2_with fail;go_fit (zdf B (pre ++ cur ++ Z) S w5 HB5 (by omega) (by omega) hs5);rintro e w6 ⟨rfl,HB6,hb6⟩;have hbr6:=hbr5.trans hb6;clear HB5 hb6 hbr5 hs5;go_wp2;go_roundw
     case rel => exact ⟨(j:Int) - 1,by omega,by omega,rfl,by rw [show ((j:Int) - 1 + 1).toNat=j by omega,HST.out]; simpa [List.append_assoc] using HB6,hbr6⟩
     case measure => simp [intOf]
    ·have hst:=Bi.outT_last (show j + 1=L1.length by omega) HZ.out;rw [zeE];rw [<- hcur] at hst;generalize Lib.decDigits z=S at *;have HST:=hii hst;have hS9:S.length<=9:=by omega
     have hc1:¬ (j:Int) < (L1.length:Int) - 1:=by omega
     clear hst hcur hlz hl9 hjj HO;go_wp2_with fail;go_fit (zdf B (pre ++ cur) S w3 HB3 (by omega) (by omega) hs3);rintro e w6 ⟨rfl,HB6,hb6⟩;have hbr6:=hbr3.trans hb6;clear HB3 hb6 hbr3 hs3 p0 p1 hE3;go_wp2;go_roundw
     case rel => exact ⟨(j:Int) - 1,by omega,by omega,rfl,by rw [show ((j:Int) - 1 + 1).toNat=j by omega,HST.out]; simpa [List.append_assoc] using HB6,hbr6⟩
     case measure => simp [intOf]
end Go.Proofs.YtfgffkmddanjjaaGreatDoor
namespace Bi
open Go.Lib (decDigits nDigits itoa)
end Bi
namespace Bi
def Sm (x:Nat):Prop:=x < 1000000000
end Bi
namespace Go.Proofs.YtfgffkmddanjjaaGreatDoor
open _root_.Go.Proofs.Tryz
open Go.RowKit
end Go.Proofs.YtfgffkmddanjjaaGreatDoor
namespace Bi
open Go.Lib (decDigits nDigits itoa)
end Bi
