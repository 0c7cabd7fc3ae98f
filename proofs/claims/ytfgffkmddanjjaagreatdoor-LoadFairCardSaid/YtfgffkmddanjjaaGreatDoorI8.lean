/-
  A region that draws its order, by an invariant: each operation is met once, under the flags of those that have been carried out.
  The conditions: the region's operations wait only for earlier ones (ziG); the invariant J speaks of the flags, of the values that the operations have left, and of the world.
-/
import Derived.Test.YtfgffkmddanjjaaGreatDoorI2
import Derived.Deep.CutBlock
import Derived.RegionTactic
import Derived.BigRegion
import Derived.Lib.Atoi
import Derived.Lib.SlTrimSet
import Derived.Lib.Strings
import Derived.Shelf.Strings.SlTrimAscii
import Derived.Test.YtfgffkmddanjjaaGreatDoorProg
import Derived.WalkKit
import Derived.Below
import Derived.Test.YtfgffkmddanjjaaGreatDoorShelfB
import Derived.Lib.AtoiErrMem
set_option linter.unusedVariables false
set_option linter.unusedSimpArgs false
set_option maxRecDepth 100000
set_option maxHeartbeats 25600000
namespace Bi
structure zoK (top second x2 head q:Nat):Prop where
 lt:q < 1000000000
 init:q * top<=head
 step:∀ g rest,g * top + rest=head->(1000000000<=g\/rest * 1000000000 + x2 < g * second)->q < g
 fin:∀ g rest,g * top + rest=head->g<=1000000000->(g * second<=rest * 1000000000 + x2\/1000000000<=rest)->g<=q + 1
theorem zmh {x0 x1 x2 top second P xl yl X Y:Nat} (hX:X=((x0 * 1000000000 + x1) * 1000000000 + x2) * P + xl) (hY:Y=(top * 1000000000 + second) * P + yl) (hyl:yl < P) (hs:second < 1000000000)
  (hlt:X < Y * 1000000000):x0<=top:=by
 have h1:(x0 * 1000000000 * 1000000000) * P<=((x0 * 1000000000 + x1) * 1000000000 + x2) * P:=Nat.mul_le_mul_right _ (by omega);have h2:(top * 1000000000 + second + 1) * P<=((top + 1) * 1000000000) * P:=Nat.mul_le_mul_right _ (by omega);rw [Nat.add_mul (top * 1000000000 + second),Nat.one_mul] at h2;have h3:Y * 1000000000<=((top + 1) * 1000000000) * P * 1000000000:=Nat.mul_le_mul_right _ (by omega);rw [Nat.mul_right_comm] at h3;have h4:(x0 * 1000000000 * 1000000000) * P < ((top + 1) * 1000000000 * 1000000000) * P:=by omega
 have:=Nat.lt_of_mul_lt_mul_right h4;omega
theorem guess_of {ss ys:LN} {k x0 x1 x2 top second:Nat} (hos:Ok ss) (hoy:Ok ys) (hsl:ss.length=k + 3) (hyl:ys.length=k + 2)
  (h0:ss[k + 2]?=some x0) (h1:ss[k + 1]?=some x1) (h2:ss[k]?=some x2) (ht:ys[k + 1]?=some top) (hs:ys[k]?=some second) (ht1:1<=top) (hlt:val ss < val ys * 1000000000) :
  zoK top second x2 (x0 * 1000000000 + x1) (val ss / val ys)/\x0<=top:=by
 have hX:=ziC hsl h0 h1 h2;have hY:=zlG hyl ht hs;have bxl:=zbs hos (k:=k) (by omega);have byl:=zbs hoy (k:=k) (by omega);have b2:=hos.at' h2;have bs:=hoy.at' hs;have hY0:0 < val ys:=by
  rcases Nat.eq_zero_or_pos (val ys) with h | h
  ·rw [h] at hlt; omega
  ·exact h
 have hq:val ss / val ys * val ys<=val ss:=Nat.div_mul_le_self _ _;have hq2:val ss < (val ss / val ys + 1) * val ys:=by rw [Nat.mul_comm]; exact Nat.lt_mul_div_succ _ hY0
 generalize val ss / val ys=q at *;refine ⟨⟨?_,?_,?_,?_⟩,zmh hX hY byl bs hlt⟩
 ·have:q * val ys < 1000000000 * val ys:=by rw [Nat.mul_comm 1000000000]; omega
  exact Nat.lt_of_mul_lt_mul_right this
 ·exact zif hq hY rfl hX bxl rfl b2
 ·intro g rest hg hc;exact zie hq hlt hY rfl hX bxl rfl hg hc
 ·intro g rest hg hgB hc;have h5:=zjh hY byl rfl bs ht1 hX rfl hg hgB hc;have h3:(g - 1) * val ys < (q + 1) * val ys:=by omega
  have:=Nat.lt_of_mul_lt_mul_right h3;omega
theorem seg_len {zs:LN} {i m:Nat} (h:i + m<=zs.length):((zs.drop i).take m).length=m:=by simp; omega
theorem seg_get {zs:LN} {i m j x:Nat} (hj:j < m) (h:zs[i + j]?=some x):((zs.drop i).take m)[j]?=some x:=by
 rw [List.getElem?_take_of_lt hj,List.getElem?_drop]; exact h
theorem round_start {zs ys:LN} {i k J:Nat} (hz:i + (k + 3)<=zs.length) (hoy:Ok ys) (hyl:ys.length=k + 2) (hJ:J=i + 1) (hlt:val zs < val ys * 1000000000 ^ J) :
  val ((zs.drop i).take (k + 3)) < val ys * 1000000000/\val (zs.drop (i + (k + 3)))=0:=by
 subst hJ;have h1:=val_lt hoy;rw [hyl] at h1;have h2:val ys * 1000000000 ^ (i + 1)<=1000000000 ^ (k + 2) * 1000000000 ^ (i + 1):=Nat.mul_le_mul_right _ (by omega);rw [<- Nat.pow_add,show k + 2 + (i + 1)=i + (k + 3) by omega] at h2;have h3:=zkr hz hlt h2;refine ⟨?_,h3⟩;have h4:=zet hz;rw [h3,Nat.mul_zero,Nat.add_zero] at h4;have h5:1000000000 ^ i * val ((zs.drop i).take (k + 3)) < 1000000000 ^ i * (val ys * 1000000000):=by
  rw [Nat.pow_succ,<- Nat.mul_assoc,Nat.mul_comm (val ys),Nat.mul_assoc] at hlt;omega
 exact Nat.lt_of_mul_lt_mul_left h5
theorem ze0 {qs:LN} {i q:Nat} (h:i < qs.length):(qs.set i q).drop i=q :: qs.drop (i + 1):=by
 rw [List.drop_eq_getElem_cons (by simpa using h),List.getElem_set_self]
 congr 1
 exact zfq λ j hj => List.getElem?_set_ne (by omega)
theorem round_end {zs zs' ys qs:LN} {i m q V J J':Nat} (hm:i + m<=zs.length) (hl:zs'.length=zs.length) (hfix:∀ j,(j < i\/i + m<=j)->zs'[j]?=zs[j]?) (hz0:val (zs.drop (i + m))=0) (ho:Ok zs)
  (hX:val ((zs'.drop i).take m) + q * val ys=val ((zs.drop i).take m)) (hlt:val ((zs'.drop i).take m) < val ys) (hqi:i < qs.length) (hJ:J=i) (hJ':J'=i + 1)
  (hI:val zs + val ys * (1000000000 ^ J' * val (qs.drop J'))=V) :
  val zs' + val ys * (1000000000 ^ J * val ((qs.set i q).drop J))=V/\val zs' < val ys * 1000000000 ^ J:=by
 subst hJ hJ';have e1:=zet hm;have e2:=zet (l:=zs') (j:=J) (m:=m) (by omega);rw [ziV (λ j hj => hfix j (.inl hj)),zfq (λ j hj => hfix j (.inr hj))] at e2;rw [hz0,Nat.mul_zero,Nat.add_zero] at e1 e2;have hb:=zbs ho (k:=J) (by omega);rw [ze0 hqi];generalize val (zs.take J)=A at *;generalize val ((zs'.drop J).take m)=X' at *;generalize val ((zs.drop J).take m)=X at *;generalize val ys=Y at *;generalize hT:val (qs.drop (J + 1))=T at *;generalize hP:1000000000 ^ J=P at *;have hp:1000000000 ^ (J + 1)=P * 1000000000:=by rw [Nat.pow_succ,hP]
 rw [hp] at hI;refine ⟨?_,?_⟩
 ·rw [val,hT];subst hX;rw [e2,<- hI,e1];have a1:Y * (P * (q + 1000000000 * T))=P * (q * Y) + Y * (P * 1000000000 * T):=by
   rw [Nat.mul_add,Nat.mul_add,<- Nat.mul_assoc P 1000000000 T]
   congr 1
   rw [Nat.mul_left_comm,Nat.mul_comm Y q]
  have a2:P * (X' + q * Y)=P * X' + P * (q * Y):=Nat.mul_add _ _ _;rw [a1,a2]; omega
 ·rw [e2];have:P * (X' + 1)<=P * Y:=Nat.mul_le_mul_left _ hlt;rw [Nat.mul_add,Nat.mul_comm P Y] at this;omega
theorem pos_of_lt_mul {a b c:Nat} (h:a < b * c):0 < b:=by
 rcases Nat.eq_zero_or_pos b with h0 | h0
 ·subst h0; omega
 ·exact h0
theorem val_lt_pow {l:LN} {k:Nat} (ho:Ok l) (h:l.length=k + 2):val l < 1000000000 ^ (k + 3):=by
 have h1:=val_lt ho;rw [h] at h1;exact Nat.lt_of_lt_of_le h1 (Nat.pow_le_pow_right (by omega) (by omega))
theorem seg_lt {zs:LN} {i m:Nat} (ho:Ok zs) (h:i + m<=zs.length):val ((zs.drop i).take m) < 1000000000 ^ m:=by
 have:=val_lt ((ho.drop i).take m)
 rwa [seg_len h] at this
theorem sub_no {X X' Y g q P:Nat} (hq1:q<=g) (hq:q=X / Y) (hY:0 < Y) (h0:X' + g * Y=X + P * 0):g=q/\X' + q * Y=X/\X' < Y:=by
 have h:X' + g * Y=X:=by rw [h0]; omega
 have h1:g<=q:=by rw [hq,Nat.le_div_iff_mul_le hY]; omega
 obtain rfl:g=q:=by omega
 have h2:X < Y * (X / Y + 1):=Nat.lt_mul_div_succ _ hY;rw [<- hq,Nat.mul_add,Nat.mul_comm Y g] at h2;exact ⟨rfl,h,by omega⟩
theorem sub_yes {X X' X2 Y g q P ca:Nat} (hq1:q<=g) (hq2:g<=q + 1) (hq:q=X / Y) (hY:0 < Y) (_hYP:Y < P) (hX':X' < P) (hX2:X2 < P) (hca:ca<=1) (h0:X' + g * Y=X + P * 1) (h2:X2 + P * ca=X' + Y) :
  g=q + 1/\X2 + q * Y=X/\X2 < Y:=by
 have h:X' + g * Y=X + P:=by rw [h0]; omega
 have h3:X < Y * (X / Y + 1):=Nat.lt_mul_div_succ _ hY;have h5:q * Y<=X:=by rw [hq]; exact Nat.div_mul_le_self _ _
 rw [<- hq,Nat.mul_add,Nat.mul_comm Y q] at h3;have h4:g=q + 1:=by
  rcases Nat.lt_or_ge q g with h4 | h4
  ·omega
  ·obtain rfl:g=q:=by omega
   omega
 subst h4;rw [Nat.add_mul] at h;rcases (show ca=0\/ca=1 by omega) with rfl | rfl
 ·omega
 ·exact ⟨rfl,by omega,by omega⟩
end Bi
namespace Go.Proofs.YtfgffkmddanjjaaGreatDoor
open _root_.Go.Proofs.Tryz
open Go.RowKit
theorem za4.touch {w w':Wo} {B b g n cap:Nat} {l:LN} (h:za4 w B (.slice (sD b 0) n cap) l) (ht:zbd g w w') (hne:b ≠ g):za4 w' B (.slice (sD b 0) n cap) l:=by
 obtain ⟨h1,h2⟩:=h;refine ⟨h1,h2.imp id ?_⟩;rintro ⟨g',cap',cur,hv,hg,hh,r⟩;have:g'=b:=by
  simp only [Value.slice.injEq,Option.some.injEq,Addr.mk.injEq] at hv;exact hv.1.1.symm
 subst this;exact ⟨g',cap',cur,hv,hg,by rw [ht.block g' hne]; exact hh,r⟩
theorem zih (m n k:Nat) (u v:LN) (Hu:Hid (u=Bi.limbs m)) (Hv:Hid (v=Bi.limbs n)) (au av:OA) (cu cv:Nat) (w:Wo) (hmu:u.length<=100000000) (hvl:v.length=k + 2) (hle:Hid (n<=m))
  (hu:U w au u) (hv:U w av v) (huv:k + 2<=u.length) :
  CP 162 #[.slice au u.length cu,.slice av (k + 2) cv] w λ e w' => zn8 w' m n e/\BH w w':=by
 have Hou:Hid (Bi.Ok u):=hii (by rw [Hu.out]; exact Bi.limbs_ok _);have Hov:Hid (Bi.Ok v):=hii (by rw [Hv.out]; exact Bi.limbs_ok _);obtain ⟨t,ht⟩:=zaj (l:=v) (k:=k + 1) (by omega);have htb:=Hov.out.at' ht;have ht0:t ≠ 0:=by
  have hc:=Bi.limbs_canon n;rw [<- Hv.out] at hc;have hne:v ≠ []:=by intro h; rw [h] at hvl; simp at hvl
  have:=hc hne;rw [List.getLast_eq_getElem] at this;have e:v[v.length - 1]'(by omega)=t:=by
   have h2:=(List.getElem?_eq_some_iff.1 ht).2;simp only [hvl]; exact h2
  rwa [e] at this
 have HVL:=hii hvl;have hvl1:((k:Int) + 2 == 1)=false:=by rw [beq_eq_false_iff_ne]; omega
 have hfit:=Bi.norm_fit Hov.out (n:=k + 1) hvl ht;obtain ⟨d,hd⟩:∃ d,d=1000000000 / (t + 1):=⟨_,rfl⟩;have hd1:1<=d:=by rw [hd,Nat.le_div_iff_mul_le (by omega)]; omega
 have hd2:d<=500000000:=by rw [hd]; apply Nat.div_le_of_le_mul; omega
 have hdi:(1000000000:Int) / ((t:Int) + 1)=(d:Int):=by rw [hd]; simp
 rw [<- hd] at hfit;have HD:=hii hd;have HFV:Hid (Bi.val v * d < 1000000000 ^ (k + 2)):=hii hfit;have HFU:Hid (Bi.val u * d < 1000000000 ^ (u.length + 1)):=hii (by
  rw [Nat.pow_succ];have h1:=Bi.val_lt Hou.out;have h2:Bi.val u * d < 1000000000 ^ u.length * d:=Nat.mul_lt_mul_of_pos_right h1 hd1;have h3:1000000000 ^ u.length * d<=1000000000 ^ u.length * 1000000000:=Nat.mul_le_mul_left _ (by omega);omega)
 clear hd hfit;have hk1:k + 2<=v.length:=Nat.le_of_eq hvl.symm;have hk2:v.length<=k + 2:=Nat.le_of_eq hvl;have HT:=hii ht;clear hvl;go_enter func162,ntmps162;go_wp2_with fail;have hc:=zbc m n u v Hu Hv au av cu cv w (by omega) (by omega) hu hv;rw [HVL.out] at hc;(with_reducible refine hc.mono ?_);clear hc;rintro e w1 ⟨rfl,hb1⟩;have hcmp:¬ zbe m n < 0:=by have:=hle.out; unfold zbe; rw [if_neg (by omega)]; split <;> omega
 have hu1:=hu.mono hb1;have hv1:=hv.mono hb1;obtain ⟨bv,ov,rfl,hct⟩:=hv1.at' ht;clear hu hv ht;go_upto_region 8 with fail;go_wp2_with fail;have hs:=zd4 u d (u.length + 1) au cu w1 (by omega) (by omega) (by omega) Hou.out hu1 HFU (by omega);rw [show ((u.length + 1:Nat):Int)=(u.length:Int) + 1 from by omega] at hs;(with_reducible refine hs.mono ?_);clear hs;rintro e w2 ⟨⟨xs,hxl,HVX,hox,rfl,hownx⟩,hb2⟩;have hv2:=hv1.mono hb2;clear hct hu1 hv1;have HXL:=hii hxl;have hxl2:u.length + 1<=xs.length:=Nat.le_of_eq hxl.symm;have hxl3:xs.length<=u.length + 1:=Nat.le_of_eq hxl;clear hxl;go_wp2_with fail;have hs:=zd4 v d (k + 2) _ cv w2 (by omega) (by omega) (by omega) Hov.out hv2 HFV hk2;rw [show ((k + 2:Nat):Int)=(k:Int) + 2 from by omega,HVL.out] at hs;(with_reducible refine hs.mono ?_);clear hs;rintro e w3 ⟨⟨ys,hyl,HVY,hoy,rfl,howny⟩,hb3⟩;have hownx3:=hownx.kept hb3 nl;have hsz12:=hownx.len.2.2.2;have hsz23:=howny.len.2.2.2;obtain ⟨top,htop⟩:=zaj (l:=ys) (k:=k + 1) (by omega);obtain ⟨sec,hsec⟩:=zaj (l:=ys) (k:=k) (by omega);have btop:=hoy.at' htop;have bsec:=hoy.at' hsec;have hct:=howny.at' htop;have hcs:=howny.at' hsec;have hhalf:=Bi.norm_half Hov.out hoy (n:=k + 1) HVL.out hyl HT.out ht0 htop (by rw [HVY.out,HD.out]);have HTOP:=hii htop;have HSEC:=hii hsec;clear htop hsec;have HYL:=hii hyl;clear hyl;go_upto_region 9 with fail;go_quiet (fail);have hbq:Below w1.heap.size w1 (w3.drewN nq):=below_drewN (hb2.trans (hb3.mono hb2.size)) nq;have hbx:Below w2.heap.size w2 (w3.drewN nq):=below_drewN hb3 nq;have hby:Below w3.heap.size w3 (w3.drewN nq):=below_drewN br nq;have hownx4:=hownx.kept hbx nl;have howny4:=howny.kept hby nl;generalize w3.drewN nq=w4 at *;go_wp2_with (at_make; refine zaU _ rfl _ _ rfl w4 w4.heap.size _ _ (u.length - (k + 2) + 1) rfl rfl (by omega) (by omega) (by omega) nl br ?_; intro w5 hownq5 hb5);have hownx5:=hownx4.kept hb5 nl;have howny5:=howny4.kept hb5 nl;clear hownx hownx3 hownx4 howny howny4 hct hcs hv2;obtain ⟨M,hM⟩:∃ M,M=u.length - (k + 2):=⟨_,rfl⟩;have HM:=hii hM;have hMu:u.length=M + (k + 2):=by omega
 have HMU:=hii hMu;have hM1:u.length<=M + (k + 2):=Nat.le_of_eq hMu;have hM2:M + (k + 2)<=u.length:=Nat.le_of_eq hMu.symm;clear hM hMu;go_loopg [15] (M + 1) (λ gk s wr => ∃ (j:Int) (zs qs:LN),-1<=j/\j < (gk:Int)/\j<=M/\s=.int .i64 j/\zs.length=u.length + 1/\qs.length=M + 1/\Bi.Ok zs/\Bi.Ok qs /\
   Hid (Bi.val zs + Bi.val ys * (1000000000 ^ (j + 1).toNat * Bi.val (qs.drop (j + 1).toNat))=Bi.val u * d)/\Hid (Bi.val zs < Bi.val ys * 1000000000 ^ (j + 1).toNat) /\
   za4 wr w1.heap.size (.slice (some ⟨w1.heap.size,0,none⟩) (u.length + 1) (u.length + 1)) zs/\za4 wr w4.heap.size (.slice (some ⟨w4.heap.size,0,none⟩) (u.length - (k + 2) + 1) (u.length - (k + 2) + 1)) qs /\
   za4 wr w2.heap.size (.slice (some ⟨w2.heap.size,0,none⟩) (k + 2) (k + 2)) ys/\w5.heap.size<=wr.heap.size/\BH w1 wr)
 case atStart =>
  refine ⟨_,xs,_,by omega,by omega,by omega,rfl,HXL.out,by simp; omega,hox,Bi.Ok.replicate _,hii ?_,hii ?_,hownx5,hownq5,howny5,nl,hbq.trans (hb5.mono hbq.size)⟩
  ·exact Bi.div_begin (by omega) HVX.out
  ·exact Bi.div_start' Hou.out HMU.out HVL.out HT.out ht0 hd1 HVX.out HVY.out (by omega)
 case round =>
  obtain ⟨j,zs,qs,hj1,hjg,hj2,rfl,hzl,hql,hoz,hoq,HI,HLT,hownx,hownq,howny,hsz,hbr⟩:=hrel;have HZL:=hii hzl;have HQL:=hii hql;have hzl2:u.length + 1<=zs.length:=Nat.le_of_eq hzl.symm;clear hzl hql hownx5 hownq5 howny5
  by_cases hj:j < 0
  ·obtain rfl:j=-1:=by omega
   obtain ⟨ax,cx,ex,hcx,hUx⟩:=hownx.read;simp only [Value.slice.injEq] at ex;obtain ⟨rfl,hz9,rfl⟩:=ex;clear hz9;obtain ⟨aq,cq,eq,hcq,hUq⟩:=hownq.read;simp only [Value.slice.injEq] at eq;obtain ⟨rfl,eq2,rfl⟩:=eq;have h1:=HI.out;have h2:=HLT.out;simp only [Int.reduceNeg,Int.reduceAdd,Int.toNat_zero,List.drop_zero,Nat.pow_zero,Nat.one_mul,Nat.mul_one] at h1 h2;have hys:=Bi.val_lt hoy;rw [HYL.out] at hys;have HTK:Hid (Bi.val (zs.take (k + 2))=Bi.val zs):=hii (Bi.val_take_small (by omega) (by omega));rw [HVY.out] at h1 h2;have HE:=hii (Bi.div_end hd1 h1 h2);have hlen:(zs.take (k + 2)).length=k + 2:=by simp; omega
   have hUt:=hUx.take (k + 2);have hot:=hoz.take (k + 2);have HEQ:=hii eq2;clear h1 h2 hys hcx eq2;have HLEN:=hii hlen;clear hlen hUx;go_wp2_with fail;have ht:=zbP (zs.take (k + 2)) _ (u.length + 1) wr (by rw [HLEN.out]; omega) (by rw [HLEN.out]; omega) hUt;rw [HLEN.out] at ht;(with_reducible refine ht.mono ?_);clear ht;rintro e w6 ⟨L1,hL1,hl1,rfl,hU1,rfl⟩;have HL1:Hid (L1=Bi.limbs (Bi.val zs)):=hii (by rw [hL1,Bi.trim_eq_limbs hot,HTK.out]);have hl1':L1.length<=100000002:=by omega
   clear hL1 hl1;go_wp2_with fail;(with_reducible refine (zfo L1 d _ _ wr ?_ (by omega) (by omega) ?_ hU1).mono ?_)
   ·omega
   ·rw [HL1.out]; exact Bi.limbs_ok _
   rintro e w6 ⟨⟨ar,R,cr,r,HR,_,_,_,hcr,rfl,HUr⟩,hb6⟩;have hUq6:=hUq.mono hb6;clear hUq hUt hU1;go_wp2_with fail;have ht:=zbP qs _ (u.length - (k + 2) + 1) w6 (by rw [HQL.out]; omega) hcq hUq6;rw [<- HEQ.out] at ht;(with_reducible refine ht.mono ?_);clear ht;rintro e w7 ⟨Q,hQ,hQl,rfl,hU7,rfl⟩;have HQ:Hid (Q=Bi.limbs (Bi.val qs)):=hii (by rw [hQ,Bi.trim_eq_limbs hoq]);clear hQ;go_wp2;go_ret2;refine ⟨⟨_,_,Q,R,_,_,hii ?_,hii ?_,hQl,hcr,rfl,hii hU7,HUr⟩,Below.step hb1 (bu hbr hb6) nl⟩
   ·rw [HQ.out,HE.out.1,Hu.out,Hv.out,Bi.val_limbs,Bi.val_limbs]
   ·rw [HR.out,HL1.out,Bi.val_limbs,HE.out.2,Hu.out,Hv.out,Bi.val_limbs,Bi.val_limbs]
  ·obtain ⟨i,rfl⟩:∃ i:Nat,j=(i:Int):=⟨j.toNat,by omega⟩;have HST:=hii (Bi.round_start (zs:=zs) (ys:=ys) (i:=i) (k:=k) (J:=((i:Int) + 1).toNat) (by omega) hoy HYL.out (by omega) HLT.out);obtain ⟨x0,hx0⟩:=zaj (l:=zs) (k:=i + (k + 2)) (by omega);obtain ⟨x1,hx1⟩:=zaj (l:=zs) (k:=i + (k + 1)) (by omega);obtain ⟨x2,hx2⟩:=zaj (l:=zs) (k:=i + k) (by omega);have b0:=hoz.at' hx0;have b1:=hoz.at' hx1;have b2:=hoz.at' hx2;have c0:=hownx.at' hx0;have c1:=hownx.at' hx1;have c2:=hownx.at' hx2;obtain ⟨hG,h0t⟩:=Bi.guess_of ((hoz.drop i).take (k + 3)) hoy (Bi.seg_len (by omega)) HYL.out (Bi.seg_get (by omega) hx0) (Bi.seg_get (by omega) hx1) (Bi.seg_get (by omega) hx2) HTOP.out HSEC.out (by omega) HST.out.1;obtain ⟨qd,hqd⟩:∃ qd,qd=Bi.val ((zs.drop i).take (k + 3)) / Bi.val ys:=⟨_,rfl⟩;rw [<- hqd] at hG;have HQD:=hii hqd;have HG:=hii hG;obtain ⟨hh,hhh⟩:∃ hh:Nat,hh=x0 * 1000000000 + x1:=⟨_,rfl⟩;have hhd:(x0:Int) * 1000000000 + x1=(hh:Int):=by rw [hhh]; simp
   have hhb:hh<=1000000000000000000:=by omega
   rw [<- hhh] at hG;have HG:=hii hG;have hg0:=Bi.guess_first_le h0t b1 hhalf;have hg1:qd<=hh / top:=by rw [Nat.le_div_iff_mul_le (by omega)]; exact hG.init
   have hg2:hh / top * top + hh % top=hh:=by rw [Nat.mul_comm]; exact Nat.div_add_mod _ _
   have hg3:hh % top < top:=Nat.mod_lt _ (by omega);have hgq:(hh:Int) / (top:Int)=((hh / top:Nat):Int):=by simp
   have hgr:(hh:Int) % (top:Int)=((hh % top:Nat):Int):=by simp
   rw [<- hhh] at hg0;generalize hh / top=g0 at hg0 hg1 hg2 hgq;generalize hh % top=r0 at hg2 hg3 hgr;have HG2:=hii hg2;clear hx0 hx1 hx2 hqd hG hhh hg2;go_upto_region 14 with fail;go_quiet (fail);have hBd:=below_drewN (Below.refl wr.heap.size wr) nq;have hownx:=hownx.kept hBd nl;have hownq:=hownq.kept hBd nl;have howny:=howny.kept hBd nl;have hbr:=below_drewN hbr nq;have c2:(wr.drewN nq).cell? ⟨w1.heap.size,i + k,none⟩=some (.int .u32 (x2:Int)):=c2;have hsz:=Nat.le_trans hsz hBd.size;clear c0 c1 hBd;generalize wr.drewN nq=ws at *;go_upto_region 15 with fail;go_quiet (fail);have hBd:=below_drewN (Below.refl ws.heap.size ws) nq;have hownx:=hownx.kept hBd nl;have hownq:=hownq.kept hBd nl;have howny:=howny.kept hBd nl;have hbr:=below_drewN hbr nq;have c2:(ws.drewN nq).cell? ⟨w1.heap.size,i + k,none⟩=some (.int .u32 (x2:Int)):=c2;have hsz:=Nat.le_trans hsz hBd.size;clear hBd;generalize ws.drewN nq=wt at *;go_upto_block 2 with fail;go_cut [17,18] from 83 to 161 (λ s17 s18 wc => ∃ g r:Nat,s17=.int .u64 g/\s18=.int .u64 r/\qd<=g/\g<=qd + 1/\g<=1000000000/\wt=wc)
   case first =>
    go_wp2_with fail;go_loop [17,18] (λ s17 s18 => ∃ g r:Nat,s17=.int .u64 g/\s18=.int .u64 r/\qd<=g/\g<=1000000001/\r < 1000000000/\Hid (g * top + r=hh)) (λ s17 _ => (intOf s17).toNat)
    case atStart => exact ⟨g0,r0,rfl,rfl,hg1,hg0,by omega,HG2⟩
    case round =>
     clear hgq hgr hg1 hg0 HG2;have c2':wt.cell? ⟨w1.heap.size,i + (k + 2) - 2,none⟩=some (.int .u32 (x2:Int)):=c2;obtain ⟨g,r,rfl,rfl,hq1,hg,hr,HI2⟩:=hrel;obtain ⟨p,hp⟩:∃ p:Nat,p=g * sec:=⟨_,rfl⟩;have hp2:p<=1000000001000000000:=by rw [hp]; exact Nat.le_trans (Nat.mul_le_mul hg (show sec<=999999999 by omega)) (by decide)
     have hp3:(g:Int) * (sec:Int)=(p:Int):=by rw [hp]; simp
     have HP:=hii hp; clear hp;obtain ⟨y,hy⟩:∃ y:Nat,y=r * 1000000000 + x2:=⟨_,rfl⟩;have hy2:y<=1000000000000000000:=by omega
     have hy3:(r:Int) * 1000000000 + (x2:Int)=(y:Int):=by rw [hy]; simp
     have HY:=hii hy; clear hy
     by_cases hyes:(1000000000:Int)<=g\/(y:Int) < p
     ·have hlt:qd < g:=HG.out.step g r HI2.out (by rw [<- HP.out,<- HY.out]; omega);have hyes':(1000000000:Int)<=g\/(¬ (1000000000:Int)<=g/\(y:Int) < p):=by omega
      clear hyes
      by_cases hr2:(1000000000:Int)<=(r:Int) + top
      ·have HF:=hii (HG.out.fin (g - 1) (r + top) (by have:=HI2.out; rw [Nat.sub_mul,Nat.one_mul]; have:top<=g * top:=Nat.le_mul_of_pos_left _ (by omega); omega) (by omega) (.inr (by omega)));rcases hyes' with h | ⟨h,h'⟩
       ·go_wp2;go_meet
        case rel => exact ⟨g - 1,r + top,by rw [Int.ofNat_sub (by omega)]; rfl,by go_num,by omega,HF.out,by omega,rfl⟩
       ·have hb:decide ((1000000000:Int)<=(g:Int))=false:=by simpa using h
        go_wp2;go_meet
        case rel => exact ⟨g - 1,r + top,by rw [Int.ofNat_sub (by omega)]; rfl,by go_num,by omega,HF.out,by omega,rfl⟩
      ·rcases hyes' with h | ⟨h,h'⟩
       ·go_wp2;go_round
        case rel => exact ⟨g - 1,r + top,by rw [Int.ofNat_sub (by omega)]; rfl,by go_num,by omega,by omega,by omega,hii (by have:=HI2.out; rw [Nat.sub_mul,Nat.one_mul]; have:top<=g * top:=Nat.le_mul_of_pos_left _ (by omega); omega)⟩
        case measure => (simp [intOf]; try omega)
       ·have hb:decide ((1000000000:Int)<=(g:Int))=false:=by simpa using h
        go_wp2;go_round
        case rel => exact ⟨g - 1,r + top,by rw [Int.ofNat_sub (by omega)]; rfl,by go_num,by omega,by omega,by omega,hii (by have:=HI2.out; rw [Nat.sub_mul,Nat.one_mul]; have:top<=g * top:=Nat.le_mul_of_pos_left _ (by omega); omega)⟩
        case measure => (simp [intOf]; try omega)
     ·have h:¬ (1000000000:Int)<=g:=by omega
      have h':¬ (y:Int) < p:=by omega
      clear hyes;have HF:=hii (HG.out.fin g r HI2.out (by omega) (.inl (by rw [<- HP.out,<- HY.out]; omega)));have hb:decide ((1000000000:Int)<=(g:Int))=false:=by simpa using h
      go_wp2;go_meet
      case rel => exact ⟨g,r,rfl,rfl,hq1,HF.out,by omega,rfl⟩
   case rest =>
    obtain ⟨g,r,rfl,rfl,hq1,hq2,hg,rfl⟩:=hcut;clear c2 hgq hgr hg1 hg0 HG2;obtain ⟨ay,cy,ey,hcy,hUy⟩:=howny.read;simp only [Value.slice.injEq] at ey;obtain ⟨rfl,hz9,rfl⟩:=ey;clear hz9 hcy;go_wp2_with fail;have hsub:=zfi w1.heap.size w1.heap.size (u.length + 1) (u.length + 1) i (i + (k + 2) + 1 - i) (u.length + 1 - i) zs ys (some ⟨w2.heap.size,0,none⟩) (k + 2) g wt (by rw [HZL.out]; omega) (by rw [HZL.out]; omega) (by rw [HYL.out]; omega) hg hoz hoy hownx hUy
     (by rintro b o h; simp only [Option.some.injEq,Addr.mk.injEq] at h; omega)
    rw [HYL.out] at hsub;(with_reducible refine hsub.mono ?_);clear hsub;rintro e w6 ⟨hS,htr⟩;rw [show i + (k + 2) + 1 - i=k + 3 by omega] at hS;obtain ⟨zs1,bo,qb,hzl1,hoz1,hbo,rfl,HQB,HX1,HFX,hown1⟩:=hS;have HZL1:=hii hzl1;have hzl3:zs.length<=zs1.length:=Nat.le_of_eq hzl1.symm;have hszs:w2.heap.size<=w4.heap.size:=hbx.size;have hsz1:w3.heap.size<=w4.heap.size:=hby.size;have hownq1:=hownq.touch htr (by omega);have howny1:=howny.touch htr (by omega);have hbr1:=hbr.trans (htr.below nl);have hsz6:w5.heap.size<=w6.heap.size:=by rw [htr.size]; exact hsz
    have HXD:=hii (Bi.pos_of_lt_mul HLT.out);have HYP2:=hii (Bi.val_lt_pow hoy HYL.out);have HS1:=hii (Bi.seg_lt (i:=i) (m:=k + 3) hoz1 (by omega));obtain ⟨z,hz⟩:=zaj (l:=qs) (k:=i) (by rw [HQL.out]; omega);have hcz:=hownq1.at' hz;have hfz:=hownq1.free i;clear hz hzl1 hownq howny hownx htr hbr hUy;rcases (show bo=0\/bo=1 by omega) with rfl | rfl
    ·obtain rfl:qb=false:=by cases qb with | false => rfl | true => exact absurd (HQB.out.1 rfl) (by decide)
     have HNO:=hii (Bi.sub_no hq1 HQD.out HXD.out HX1.out);go_wp2;have hownq2:=hownq1.set i (g:Int) qd (by rw [HNO.out.1]);have htq:zbd w4.heap.size w6 (w6.setCell ⟨w4.heap.size,i,none⟩ (.int .u32 (g:Int))):=(zbd.refl w4.heap.size _).setCell (p:=⟨w4.heap.size,i,none⟩) rfl _;have hownx2:=hown1.touch htq (by omega);have howny2:=howny1.touch htq (by omega);have hbr2:=hbr1.setCell (p:=⟨w4.heap.size,i,none⟩) (by simp only; omega) (.int .u32 (g:Int));have hszf:=htq.size;have HE:=hii (Bi.round_end (J:=((i:Int) - 1 + 1).toNat) (by omega) HZL1.out HFX.out HST.out.2 hoz HNO.out.2.1 HNO.out.2.2 (by rw [HQL.out]; omega) (by omega) (by omega) HI.out);go_roundg i
     case measure => omega
     case rel => exact ⟨(i:Int) - 1,zs1,qs.set i qd,by omega,by omega,by omega,rfl,by rw [HZL1.out]; exact HZL.out,by rw [List.length_set]; exact HQL.out,hoz1,hoq.set _ HG.out.lt,hii HE.out.1,hii HE.out.2,hownx2,hownq2,howny2,by omega,hbr2⟩
    ·obtain rfl:qb=true:=HQB.out.2 rfl;obtain ⟨ay,cy,ey,hcy,hUy⟩:=howny1.read;simp only [Value.slice.injEq] at ey;obtain ⟨rfl,hz9,rfl⟩:=ey;clear hz9 hcy;go_wp2_with fail;have hsub:=zgj w1.heap.size w1.heap.size (u.length + 1) (u.length + 1) i (i + (k + 2) + 1 - i) (u.length + 1 - i) zs1 ys (some ⟨w2.heap.size,0,none⟩) (k + 2) w6 (by rw [HZL1.out,HZL.out]; omega) (by omega) (by rw [HYL.out]; omega) hoz1 hoy hown1 hUy
      (by rintro b o h; simp only [Option.some.injEq,Addr.mk.injEq] at h; omega)
     rw [HYL.out] at hsub;(with_reducible refine hsub.mono ?_);clear hsub;rintro e w7 ⟨hS,htr⟩;rw [show i + (k + 2) + 1 - i=k + 3 by omega] at hS;obtain ⟨zs2,ca,hzl2',hoz2,hca,rfl,HX2,HFX2,hown2⟩:=hS;have HZL2:Hid (zs2.length=zs.length):=hii (hzl2'.trans HZL1.out);have hzl4:zs.length<=zs2.length:=by rw [HZL2.out]; exact nl
     have hownq2:=hownq1.touch htr (by omega);have howny2:=howny1.touch htr (by omega);have hbr2:=hbr1.trans (htr.below nl);have hsz7:w5.heap.size<=w7.heap.size:=by rw [htr.size]; exact hsz6
     have HNO:=hii (Bi.sub_yes hq1 hq2 HQD.out HXD.out HYP2.out HS1.out (Bi.seg_lt (i:=i) (m:=k + 3) hoz2 (by omega)) hca HX1.out HX2.out);obtain ⟨z',hz'⟩:=zaj (l:=qs) (k:=i) (by rw [HQL.out]; omega);have hcz:=hownq2.at' hz';have hfz:=hownq2.free i;have hg1:1<=g:=by have:=HNO.out.1; omega
     clear hz' hzl2' hownq1 howny1 hown1 htr hbr1 hUy;go_wp2;have hownq3:=hownq2.set i ((g:Int) - 1) qd (by have:=HNO.out.1; omega);have htq:zbd w4.heap.size w7 (w7.setCell ⟨w4.heap.size,i,none⟩ (.int .u32 ((g:Int) - 1))):=(zbd.refl w4.heap.size _).setCell (p:=⟨w4.heap.size,i,none⟩) rfl _;have hownx3:=hown2.touch htq (by omega);have howny3:=howny2.touch htq (by omega);have hbr3:=hbr2.setCell (p:=⟨w4.heap.size,i,none⟩) (by simp only; omega) (.int .u32 ((g:Int) - 1));have hszf:=htq.size;have HE:=hii (Bi.round_end (J:=((i:Int) - 1 + 1).toNat) (by omega) HZL2.out (λ j hj => (HFX2.out j hj).trans (HFX.out j hj)) HST.out.2 hoz HNO.out.2.1 HNO.out.2.2 (by rw [HQL.out]; omega) (by omega) (by omega) HI.out);go_roundg i
     case measure => omega
     case rel => exact ⟨(i:Int) - 1,zs2,qs.set i qd,by omega,by omega,by omega,rfl,by rw [HZL2.out]; exact HZL.out,by rw [List.length_set]; exact HQL.out,hoz2,hoq.set _ HG.out.lt,hii HE.out.1,hii HE.out.2,hownx3,hownq3,howny3,by omega,hbr3⟩
theorem zei (m n:Nat) (u v:LN) (Hu:Hid (u=Bi.limbs m)) (Hv:Hid (v=Bi.limbs n)) (au av:OA) (cu cv:Nat) (w:Wo) (hmu:u.length<=100000000) (hmv:v.length<=100000000) (hn:0 < n)
  (hu:U w au u) (hv:U w av v) :
  CP 162 #[.slice au u.length cu,.slice av v.length cv] w λ e w' => zn8 w' m n e/\BH w w':=by
 rcases Nat.lt_or_ge m n with h | h
 ·exact zjs m n u v Hu Hv au av cu cv w (by omega) (by omega) (hii h) hu hv
 ·have hvu:v.length<=u.length:=by
   apply Nat.le_of_not_lt; intro h2
   rw [Hu.out,Hv.out] at h2;have:=Bi.val_lt_of_length h2;omega
  have hv0:v ≠ []:=by intro h2; have:=Hv.out; rw [h2] at this; have:=Bi.limbs_eq_nil.1 this.symm; omega
  match hl:v,hv0 with
  | [x],_ =>
   have hx:x=n:=by have:=congrArg Bi.val Hv.out; rw [Bi.val_limbs] at this; simpa [Bi.val] using this
   subst hx;have hx9:x < 1000000000:=by have:=Bi.limbs_ok x; rw [<- Hv.out] at this; exact this.head
   exact zig m x u Hu au av cu cv w (by omega) hn hx9 (hii h) hu hv
  | x :: y :: r,_ =>
   have:=zih m n r.length u (x :: y :: r) Hu Hv au av cu cv w hmu (by simp) (hii h) hu hv (by simpa using hvu)
   simpa using this
theorem zlx (w:Wo) (a b c d x y z u:Vl) (t:TypeId):∃ wx,wx=(((w.alloc (.cells #[a,b] t)).alloc (.cells #[c,d] t)).alloc (.cells #[x,y] t)).alloc (.cells #[z,u] t)/\wx.heap.size=w.heap.size + 1 + 1 + 1 + 1 /\
  Box wx w.heap.size a b/\Box wx (w.heap.size + 1) c d/\Box wx (w.heap.size + 1 + 1) x y/\Box wx (w.heap.size + 1 + 1 + 1) z u/\BH w wx:=by
 obtain ⟨wy,hwy,hsz,B1,B2,B3,hb⟩:=zbN w a b c d x y t;refine ⟨_,rfl,by simp,?_⟩;rw [<- hwy];refine ⟨B1.mono (bA _ _),B2.mono (bA _ _),B3.mono (bA _ _),?_,hb.alloc hb.size _⟩;have:=Box.new wy z u t
 rwa [hsz] at this
theorem zk8 (a:Vl) (x:Int) (w:Wo) (ha:zah w a x) (hE:Env w) :
  CP 119 #[a] w λ e w' => e=.returned (.int .i64 (zaH x))/\BH w w':=by
 obtain ⟨n1,ao1,L1,c1,rfl,Hn1,HL1,HB1,hc1,hl1,hU1⟩:=ha;go_enter func119,ntmps119;go_wp2_with fail;have B1:=Box.new w (.bool n1) (.slice ao1 L1.length c1) 30;have hbx:=bA w (.cells #[.bool n1,.slice ao1 L1.length c1] 30);have hUx:=hU1.mono hbx;have hEx:=hE.mono hbx;clear hU1 hE;generalize w.alloc (.cells #[.bool n1,.slice ao1 L1.length c1] 30)=wx at *;(with_reducible refine (zb3 n1 L1 ao1 c1 wx ?_ hUx hEx).mono ?_)
 ·omega
 rintro e w1 ⟨⟨q,HQ,rfl⟩,hb1⟩;obtain rfl:q=true:=HQ.out.2 (zaz x n1 L1 Hn1.out HL1.out HB1.out);clear HQ;have hV:zah w1 (.agg #[.bool n1,.slice ao1 L1.length c1]) x:=⟨n1,ao1,L1,c1,rfl,Hn1,HL1,HB1,hc1,hl1,hUx.mono hb1⟩;obtain ⟨p0,p1,_,_⟩:=B1.mono hb1;have hbw:=bu hbx hb1;clear hUx hEx;go_wp2_with fail;go_fit (zeA _ x w1 hV);rintro e w2 ⟨rfl,hb2⟩;go_wp2;go_ret;exact ⟨rfl,bu hbw hb2⟩
def zdb (x y:Int):Int:=if x < y then -1 else if y < x then 1 else 0
theorem zhs (X Y:Nat):Nat.gcd Y (X % Y)=Nat.gcd X Y:=by rw [Nat.gcd_comm X Y,Nat.gcd_rec Y X,Nat.gcd_comm]
theorem zjk {X Y:Nat} (h1:X < Bi.Big) (h2:Y < Bi.Big):Nat.gcd X Y < Bi.Big:=by
 rcases Nat.eq_zero_or_pos X with h | h
 ·subst h; simpa using h2
 ·exact Nat.lt_of_le_of_lt (Nat.gcd_le_left _ h) h1
theorem zmR (a b:Vl) (x y:Int) (w:Wo) (ha:zah w a x) (hb:zah w b y) (hE:Env w) :
  CP 122 #[a,b] w λ e w' => ze8 w' ((Int.gcd x y:Nat):Int) e/\BH w w':=by
 obtain ⟨n1,ao1,L1,c1,rfl,Hn1,HL1,HB1,hc1,hl1,hU1⟩:=ha;obtain ⟨n2,ao2,L2,c2,rfl,Hn2,HL2,HB2,hc2,hl2,hU2⟩:=hb;go_enter func122,ntmps122;go_wp2_with fail;obtain ⟨wx,hwx,hsz,B1,B2,B3,hbx⟩:=zbN w (.bool n1) (.slice ao1 L1.length c1) (.bool n2) (.slice ao2 L2.length c2) bF_ nS_ 30;rw [<- hwx];clear hwx;(with_reducible refine (zem wx _ hsz n1 n2 ao1 ao2 L1 L2 c1 c2 (hU1.mono hbx) (hU2.mono hbx) ?_ ?_ (hE.mono hbx)).mono ?_)
 ·omega
 ·omega
 rintro e w1 ⟨⟨r,HR,HR2,rfl⟩,hb1'⟩;obtain rfl:r=0:=HR.out.2 ⟨zaz x n1 L1 Hn1.out HL1.out HB1.out,zaz y n2 L2 Hn2.out HL2.out HB2.out⟩;clear HR HR2;have B1:=B1.mono hb1';have B2:=B2.mono hb1';have B3:=B3.mono hb1';have hbw:=Below.step hbx hb1' nl;have hbd:=hbw.drew;have hX1:=hU1.mono hbd;have hX2:=hU2.mono hbd;have hEx:=hE.mono hbd;have D1:=B1.mono ((Below.refl w1.heap.size w1).drew);have D2:=B2.mono ((Below.refl w1.heap.size w1).drew);have D3:=B3.mono ((Below.refl w1.heap.size w1).drew);clear hU1 hU2 hE hsz;obtain ⟨a0,a1,_,_⟩:=B1;obtain ⟨b0,b1,_,_⟩:=B2;go_wp2_with fail;go_region_held3 (λ w' => w'.cell? ⟨w.heap.size,1,none⟩=some (.slice ao1 L1.length c1)/\w'.cell? ⟨w.heap.size + 1,1,none⟩=some (.slice ao2 L2.length c2))
  (first | (with_reducible exact ⟨a1,b1⟩) | (with_reducible exact ⟨D1.c1,D2.c1⟩) | (with_reducible exact ⟨E1.c1,E2.c1⟩) | (with_reducible exact ⟨F1.c1,F2.c1⟩) | (simp [F1.c1,F2.c1,go_sem]; done))
  (first
   | (go_at_call 161; ((with_reducible refine (zdM L1 ao1 c1 _ ?_ hX1).mono ?_); (omega)); rintro e w2 ⟨⟨a3,c3,rfl,hc3,HU3⟩,hb2⟩; have E1:=D1.mono hb2; have E2:=D2.mono hb2; have E3:=D3.mono hb2; have hY2:=hX2.mono hb2)
   | (go_at_call 161; ((with_reducible refine (zdM L2 ao2 c2 _ ?_ hY2).mono ?_); (omega)); rintro e w3 ⟨⟨a4,c4,rfl,hc4,HU4⟩,hb3⟩; have F1:=E1.mono hb3; have F2:=E2.mono hb3; have F3:=E3.mono hb3))
 go_wp2_with fail;have hbw3:BH w w3:=Below.step (bu hbd hb2) hb3 nl;have hU3:=HU3.out.mono hb3;have hU4:=HU4.out;have hE3:=(hEx.mono hb2).mono hb3;clear a0 a1 b0 b1 hX1 hX2 hEx hY2 D1 D2 D3 E1 E2 E3 F1 F2;go_loopg [7,8] (y.natAbs) (λ gk s7 s8 wr => ∃ (X Y:Nat) (L M:LN) (a5 a6:OA) (c5 c6:Nat),Y<=gk/\s7=.slice a5 L.length c5/\s8=.slice a6 M.length c6/\Hid (L=Bi.limbs X)/\Hid (M=Bi.limbs Y)/\Hid (Nat.gcd X Y=Int.gcd x y) /\
   Hid (X < Bi.Big/\Y < Bi.Big)/\L.length<=c5/\M.length<=c6/\U wr a5 L/\U wr a6 M/\BH w3 wr)
 case atStart => exact ⟨x.natAbs,y.natAbs,L1,L2,a3,a4,c3,c4,nl,rfl,rfl,HL1,HL2,hii rfl,hii ⟨HB1.out,HB2.out⟩,hc3,hc4,hU3,hU4,br⟩
 case round =>
  clear hU3 hU4;obtain ⟨X,Y,L,M,a5,a6,c5,c6,hY,rfl,rfl,HL,HM,HG,HXY,hc5,hc6,hUL,hUM,hbr⟩:=hrel;have hl5:L.length<=34:=by rw [HL.out]; exact zau HXY.out.1
  have hl6:M.length<=34:=by rw [HM.out]; exact zau HXY.out.2
  by_cases hM0:M=[]
  ·have hY0:Y=0:=Bi.limbs_eq_nil.1 (by rw [<- HM.out]; exact hM0);subst hM0;subst hY0;have hEr:=hE3.mono hbr;have hbr0:=bu hbw3 hbr;have F4:=F3.mono hbr;clear hUM hc6 hl6 hE3;go_wp2_with fail;(with_reducible refine (za1 false L a5 c5 wr ?_ hc5 hUL (hii ?_) hEr).mono ?_)
   ·omega
   ·rw [HL.out]; exact Bi.limbs_ok _
   rintro e w5 ⟨⟨ng,ao3,n3,Y3,k3,rfl,HR⟩,hb5⟩;obtain ⟨p0,p1,q0,q1⟩:=F4.mono hb5;go_wp2;refine bodyPost_ret (v:=.tuple #[.agg #[.bool ng,.slice ao3 n3 Y3],.int .i64 k3]) (by simp [results,Tryz.results122,go_sem,p0,p1]) rfl ⟨⟨ng,ao3,n3,Y3,k3,rfl,hii ?_⟩,?_⟩
   ·have:=HR.out.put2 p0 p1 (.bool ng) (.slice ao3 n3 Y3);rw [HL.out,Bi.val_limbs] at this;have e1:sgn false X=((Int.gcd x y:Nat):Int):=by rw [<- HG.out]; simp [sgn]
    rw [e1] at this;exact this
   ·exact Below.put2 (bu hbr0 hb5) (by omega) _ _
  ·have hM1:0 < M.length:=List.length_pos_iff.2 hM0;have hY1:0 < Y:=by
    rcases Nat.eq_zero_or_pos Y with h | h
    ·exact absurd (by rw [HM.out,h]; rfl) hM0
    ·exact h
   clear hM0;go_wp2_with fail;(with_reducible refine (zei X Y L M HL HM a5 a6 c5 c6 wr ?_ ?_ hY1 hUL hUM).mono ?_)
   ·omega
   ·omega
   rintro e w5 ⟨⟨a7,a8,Q,R,c7,c8,HQ,HR,hc7,hc8,rfl,HU7,HU8⟩,hb5⟩;have hUM5:=hUM.mono hb5;have hUR:=HU8.out;have hlt:=Nat.mod_lt X hY1;clear hUL hUM;go_wp2;go_roundg (X % Y)
   case measure => omega
   case rel => exact ⟨Y,X % Y,M,R,a6,a8,c6,c8,nl,rfl,rfl,HM,HR,hii (by rw [<- HG.out]; exact zhs X Y),hii ⟨HXY.out.2,Nat.lt_trans hlt HXY.out.2⟩,hc6,hc8,hUM5,hUR,bu hbr hb5⟩
def zo5 (w':Wo) (z1 z2:Int) (e:Ending):Prop :=
 ∃ (n1:Bool) (a1:OA) (m1 c1:Nat) (n2:Bool) (a2:OA) (m2 c2:Nat),e=.returned (.tuple #[.agg #[.bool n1,.slice a1 m1 c1],.agg #[.bool n2,.slice a2 m2 c2],.int .i64 0]) /\
  Hid (zah w' (.agg #[.bool n1,.slice a1 m1 c1]) z1)/\Hid (zah w' (.agg #[.bool n2,.slice a2 m2 c2]) z2)
theorem zg3 (x y:Int) (n1 n2:Bool) (h1:n1=decide (x < 0)) (h2:n2=decide (y < 0)):sgn (!(n1 == n2)) (x.natAbs / y.natAbs)=x.tdiv y:=by
 have e1:=zby x n1 h1;have e2:=zby y n2 h2;rw [<- e1,<- e2,zao,zao];unfold sgn
 cases n1 <;> cases n2 <;> simp [Int.tdiv_neg,Int.neg_tdiv]
theorem zg2 (x y:Int) (n1:Bool) (h1:n1=decide (x < 0)):sgn n1 (x.natAbs % y.natAbs)=x.tmod y:=by
 have e1:=zby x n1 h1;rw [<- e1,zao];unfold sgn;rcases Int.natAbs_eq y with h | h
 all_goals
  rw [h]
  cases n1 <;> simp [Int.neg_tmod,Int.tmod_neg,<- Int.ofNat_tmod]
theorem zmT (a b:Vl) (x y:Int) (w:Wo) (ha:zah w a x) (hb:zah w b y) (hy0:Hid (y ≠ 0)) (hE:Env w) :
  CP 170 #[a,b] w λ e w' => zo5 w' (x.tdiv y) (x.tmod y) e/\BH w w':=by
 obtain ⟨n1,ao1,L1,c1,rfl,Hn1,HL1,HB1,hc1,hl1,hU1⟩:=ha;obtain ⟨n2,ao2,L2,c2,rfl,Hn2,HL2,HB2,hc2,hl2,hU2⟩:=hb;have hL2:0 < L2.length:=by
  rcases Nat.eq_zero_or_pos L2.length with h | h
  ·have h2:=HL2.out;rw [List.length_eq_zero_iff.1 h] at h2;have:=Bi.limbs_eq_nil.1 h2.symm;have:=hy0.out;omega
  ·exact h
 have hLz:((L2.length:Int) == 0)=false:=by rw [beq_eq_false_iff_ne]; omega
 go_enter func170,ntmps170;go_wp2_with fail;obtain ⟨wx,hwx,hsz,B1,B2,B3,B4,hbx⟩:=zlx w (.bool n1) (.slice ao1 L1.length c1) (.bool n2) (.slice ao2 L2.length c2) bF_ nS_ bF_ nS_ 30;rw [<- hwx];clear hwx;(with_reducible refine (zem wx _ hsz n1 n2 ao1 ao2 L1 L2 c1 c2 (hU1.mono hbx) (hU2.mono hbx) ?_ ?_ (hE.mono hbx)).mono ?_)
 ·omega
 ·omega
 rintro e w1 ⟨⟨r,HR,HR2,rfl⟩,hb1'⟩;obtain rfl:r=0:=HR.out.2 ⟨zaz x n1 L1 Hn1.out HL1.out HB1.out,zaz y n2 L2 Hn2.out HL2.out HB2.out⟩;clear HR HR2;have B1:=B1.mono hb1';have B2:=B2.mono hb1';have B3:=B3.mono hb1';have B4:=B4.mono hb1';have hbw:=Below.step hbx hb1' nl;have hE1:=hE.mono hbw;have hX1:=hU1.mono hbw;have hX2:=hU2.mono hbw;have hlt4:=B4.lt;clear hU1 hU2 hE hsz;obtain ⟨a0,a1,_,_⟩:=B1;obtain ⟨b0,b1,_,_⟩:=B2;go_wp2_with fail;(with_reducible refine (zei x.natAbs y.natAbs L1 L2 HL1 HL2 ao1 ao2 c1 c2 w1 ?_ ?_ ?_ hX1 hX2).mono ?_)
 ·omega
 ·omega
 ·have:=hy0.out; omega
 rintro e w2 ⟨⟨a3,a4,Q,R,c3,c4,HQ,HR,hc3,hc4,rfl,HU3,HU4⟩,hb2⟩;have hq34:Q.length<=34:=by rw [HQ.out]; exact zau (Nat.lt_of_le_of_lt (Nat.div_le_self _ _) HB1.out)
 have hr34:R.length<=34:=by rw [HR.out]; exact zau (Nat.lt_of_le_of_lt (Nat.mod_le _ _) HB1.out)
 have a0:w2.cell? ⟨w.heap.size,0,none⟩=some (.bool n1):=(hb2.cell (p:=⟨w.heap.size,0,none⟩) (by simp only; omega)).trans a0;have b0:w2.cell? ⟨w.heap.size + 1,0,none⟩=some (.bool n2):=(hb2.cell (p:=⟨w.heap.size + 1,0,none⟩) (by simp only; omega)).trans b0;have B3:=B3.mono hb2;have B4:=B4.mono hb2;have hbw2:=bu hbw hb2;have hE2:=hE1.mono hb2;have hlt4:=B4.lt;clear a1 b1 hX1 hX2 hE1;go_wp2_with fail;(with_reducible refine (za1 (!(n1 == n2)) Q a3 c3 w2 ?_ hc3 HU3.out (hii ?_) hE2).mono ?_)
 ·omega
 ·rw [HQ.out]; exact Bi.limbs_ok _
 rintro e w3 ⟨⟨ng,ao3,n3,Y3,k3,rfl,HR3⟩,hb3⟩;have HV3:Hid (zah w3 (.agg #[.bool ng,.slice ao3 n3 Y3]) (x.tdiv y)):=hii (by
  have h:=HR3.out;have h1:Bi.val Q=x.natAbs / y.natAbs:=by rw [HQ.out,Bi.val_limbs]
  rw [h1,zg3 x y n1 n2 Hn1.out Hn2.out] at h;rcases h with ⟨_,_,h⟩ | ⟨h,_⟩
  ·exact h
  ·exact absurd (by rw [Int.natAbs_tdiv]; exact Nat.lt_of_le_of_lt (Nat.div_le_self _ _) HB1.out) h)
 have a0:w3.cell? ⟨w.heap.size,0,none⟩=some (.bool n1):=(hb3.cell (p:=⟨w.heap.size,0,none⟩) (by simp only; omega)).trans a0;have B3:=B3.mono hb3;have B4:=B4.mono hb3;have hbw3:=bu hbw2 hb3;have hE3:=hE2.mono hb3;have hlt4:=B4.lt;have hU4:=HU4.out.mono hb3;clear b0 hE2 HR3;have hlt0:w.heap.size < w3.heap.size:=by omega
 go_wp2_with fail;have X1:=Box.new w3 (.bool ng) (.slice ao3 n3 Y3) 30;have hba:=bA w3 (.cells #[.bool ng,.slice ao3 n3 Y3] 30);have hsza:(w3.alloc (.cells #[.bool ng,.slice ao3 n3 Y3] 30)).heap.size=w3.heap.size + 1:=by simp
 generalize w3.alloc (.cells #[.bool ng,.slice ao3 n3 Y3] 30)=w4 at *;have B3:=B3.mono hba;have B4:=B4.mono hba;have hbw4:=bu hbw3 hba;have hE4:=hE3.mono hba;have hU4:=hU4.mono hba;have HV4:=hii (HV3.out.mono hba);(with_reducible refine (za1 n1 R a4 c4 w4 ?_ hc4 hU4 (hii ?_) hE4).mono ?_)
 ·omega
 ·rw [HR.out]; exact Bi.limbs_ok _
 rintro e w5 ⟨⟨J5,ao5,n5,Y5,k5,rfl,HR5⟩,hb5⟩;have HW5:Hid (zah w5 (.agg #[.bool J5,.slice ao5 n5 Y5]) (x.tmod y)):=hii (by
  have h:=HR5.out;have h1:Bi.val R=x.natAbs % y.natAbs:=by rw [HR.out,Bi.val_limbs]
  rw [h1,zg2 x y n1 Hn1.out] at h;rcases h with ⟨_,_,h⟩ | ⟨h,_⟩
  ·exact h
  ·exact absurd (by rw [Int.natAbs_tmod]; exact Nat.lt_of_le_of_lt (Nat.mod_le _ _) HB1.out) h)
 have B3:=B3.mono hb5;have B4:=B4.mono hb5;have X1:=X1.mono hb5;have hbw5:=bu hbw4 hb5;have HV5:=hii (HV4.out.mono hb5);have hlt5:w3.heap.size < w5.heap.size:=by have:=hb5.size; omega
 clear a0 hE3 hE4 HR5 hU4 hlt0;go_upto_region 9 with fail;have X2:=Box.new w5 (.bool J5) (.slice ao5 n5 Y5) 30;have hba5:=bA w5 (.cells #[.bool J5,.slice ao5 n5 Y5] 30);have hszb:(w5.alloc (.cells #[.bool J5,.slice ao5 n5 Y5] 30)).heap.size=w5.heap.size + 1:=by simp
 generalize w5.alloc (.cells #[.bool J5,.slice ao5 n5 Y5] 30)=w6 at *;have B3:=B3.mono hba5;have B4:=B4.mono hba5;have X1:=X1.mono hba5;have hbw6:=bu hbw5 hba5;have HV6:=hii (HV5.out.mono hba5);have HW6:=hii (HW5.out.mono hba5);have hlt3:=B4.lt;obtain ⟨p0,p1,q0,q1⟩:=B3;obtain ⟨r0,r1,s0,s1⟩:=B4;obtain ⟨x0,x1,_,_⟩:=X1;obtain ⟨y0,y1,_,_⟩:=X2;have hne1:w.heap.size + 1 + 1 < w3.heap.size:=by omega
 have hne2:w.heap.size + 1 + 1 + 1 < w3.heap.size:=by omega
 clear hsza hszb hbw3 hbw4 hbw5 hba hba5;go_region;go_wp2;have r0':∀ u v,((w6.setCell ⟨w.heap.size + 1 + 1,0,none⟩ u).setCell ⟨w.heap.size + 1 + 1,1,none⟩ v).cell? ⟨w.heap.size + 1 + 1 + 1,0,none⟩=some bF_:=λ u v => by
  rw [World.cell?_setCell_other _ _ _ _ (by simp),World.cell?_setCell_other _ _ _ _ (by simp)]; exact r0
 have r1':∀ u v,((w6.setCell ⟨w.heap.size + 1 + 1,0,none⟩ u).setCell ⟨w.heap.size + 1 + 1,1,none⟩ v).cell? ⟨w.heap.size + 1 + 1 + 1,1,none⟩=some nS_:=λ u v => by
  rw [World.cell?_setCell_other _ _ _ _ (by simp),World.cell?_setCell_other _ _ _ _ (by simp)]; exact r1
 have R0:=hii r0';have R1:=hii r1';clear r0' r1';refine bodyPost_ret (v:=.tuple #[.agg #[.bool ng,.slice ao3 n3 Y3],.agg #[.bool J5,.slice ao5 n5 Y5],.int .i64 0]) (by simp [results,Tryz.results170,go_sem,p0,p1,r0,r1]) rfl ⟨⟨ng,ao3,n3,Y3,J5,ao5,n5,Y5,rfl,hii ?_,hii ?_⟩,?_⟩
 ·exact ((HV6.out.put2 p0 p1 _ _).put2 (R0.out _ _) (R1.out _ _) _ _).mono (br.drew)
 ·exact ((HW6.out.put2 p0 p1 _ _).put2 (R0.out _ _) (R1.out _ _) _ _).mono (br.drew)
 ·exact (Below.put2 (Below.put2 hbw6 (by omega) _ _) (by omega) _ _).drew
end Go.Proofs.YtfgffkmddanjjaaGreatDoor
namespace Bi
theorem len_mono {a b:Nat} (h:a<=b):(limbs a).length<=(limbs b).length:=by
 apply Nat.le_of_not_lt
 intro h2;have:=val_lt_of_length h2;omega
theorem zmv {low n R:Nat} (h1:n * low<=R) (h2:R < n * (low + 1)):low=R / n/\R - n * low=R % n:=by
 obtain ⟨r,rfl⟩:∃ r,R=n * low + r:=⟨R - n * low,by omega⟩;rw [Nat.mul_add] at h2;have hn:0 < n:=by omega
 have hr:r < n:=by omega
 rw [Nat.mul_add_div hn,Nat.div_eq_of_lt hr,Nat.mul_add_mod,Nat.mod_eq_of_lt hr];exact ⟨by omega,by omega⟩
theorem zkq {q:LN} {i:Nat} (hi:i < q.length) (h0:q.getD i 0=0):q.set i 0=q:=by
 apply List.ext_getElem?
 intro j
 by_cases hj:i=j
 ·subst hj;rw [List.getElem?_set_self hi,gE hi];rw [List.getD_eq_getElem?_getD,gE hi] at h0;simp only [Option.getD_some] at h0;rw [h0]
 ·rw [List.getElem?_set_ne hj]
theorem rdiv_zero {u q:LN} {i v rest x J:Nat} (hv:0 < v) (hi:i < u.length) (hql:q.length=u.length) (hx:u.getD i 0=x) (hJ:J=i + 1) (hinv:val (q.drop J) * v + rest=val (u.drop J)) (h0:q.getD i 0=0) (hlt:rest * 1000000000 + x < v) {I:Nat} (hI:I=i) :
  val (q.drop I) * v + (rest * 1000000000 + x)=val (u.drop I):=by
 subst hJ hI;have:=short_step hv hi hql hx hinv
 rwa [Nat.div_eq_of_lt hlt,Nat.mod_eq_of_lt hlt,zkq (by omega) h0] at this
theorem rdiv_step {u q:LN} {i v rest x J low:Nat} (hi:i < u.length) (hql:q.length=u.length) (hx:u.getD i 0=x) (hJ:J=i + 1) (hinv:val (q.drop J) * v + rest=val (u.drop J)) (h1:v * low<=rest * 1000000000 + x) (h2:rest * 1000000000 + x < v * (low + 1)) {I:Nat} (hI:I=i) :
  val ((q.set i low).drop I) * v + (rest * 1000000000 + x - v * low)=val (u.drop I)/\rest * 1000000000 + x - v * low < v:=by
 subst hJ hI;have hv:0 < v:=by
  rcases Nat.eq_zero_or_pos v with h | h
  ·subst h; omega
  ·exact h
 have:=short_step hv hi hql hx hinv;obtain ⟨e1,e2⟩:=zmv h1 h2;rw [e2,e1];rw [e1] at e2;exact ⟨this,Nat.mod_lt _ hv⟩
theorem val_cons9 (x:Nat) (l:LN):val (x :: l)=val l * 1000000000 + x:=by simp [val]; omega
end Bi
namespace Go.Proofs.YtfgffkmddanjjaaGreatDoor
open _root_.Go.Proofs.Tryz
open Go.RowKit
theorem za4.lit1 (w:Wo) (Y:Int) (y:Nat) (hY:Y=(y:Int)):za4 (w.alloc (.cells #[.int .u32 Y] 128)) w.heap.size (.slice (some ⟨w.heap.size,0,none⟩) 1 1) [y]:=by
 subst hY;exact World.ownsRow_lit (base:=w.heap.size) (e:=128) (size:=1) w #[.int .u32 (y:Int)] 1 nl (by simp [maxLen]) (by simp)
theorem zdx (a:LN) (n:Nat) (aoa:OA) (ca:Nat) (w:Wo) (hma:a.length<=1000000000) (hn:n < 1000000000) (hoa:Bi.Ok a) (ha:U w aoa a) :
  CP 132 #[.slice aoa a.length ca,.int .u64 n,.int .i64 0] w λ e w' => ∃ ao L cap,L=Bi.limbs (Bi.val a * n)/\e=.returned (.slice ao L.length cap)/\L.length<=cap /\
   L.length<=a.length + 1/\U w' ao L/\BH w w' :=
 (zd7 a n 0 aoa ca w hma (by omega) hn hoa ha).mono (by
  rintro e w' ⟨ao,L,cap,hL,h1,h2,h3,h4⟩;exact ⟨ao,L,cap,by rw [hL,Nat.pow_zero,Nat.one_mul],h1,h2,h3,h4⟩)
theorem zg6 (m n : Nat) (u v : LN) (Hu : Hid (u = Bi.limbs m)) (Hv : Hid (v = Bi.limbs n)) (au av : OA) (cu cv : Nat) (w : Wo) (hmu : u.length ≤ 100000000) (hmv : v.length ≤ 100000000) (hn : 0 < n)
    (hu : U w au u) (hv : U w av v) :
    CP 129 #[.slice au u.length cu, .slice av v.length cv] w fun e w' => zn8 w' m n e ∧ BH w w' := by
  have Hou : Hid (Bi.Ok u) := hii (by rw [Hu.out]; exact Bi.limbs_ok _)
  have Hov : Hid (Bi.Ok v) := hii (by rw [Hv.out]; exact Bi.limbs_ok _)
  have HVV : Hid (Bi.val v = n) := hii (by rw [Hv.out, Bi.val_limbs])
  have HN := hii hn
  clear hn
  go_enter func129, ntmps129
  go_wp2_with (at_make; refine zaU _ rfl _ _ rfl w w.heap.size _ _ u.length rfl rfl rfl rfl (by omega) nl br ?_; intro w0 hown0 hb0)
  go_loopg [7, 8] (u.length) (fun gk s7 s8 wr => ∃ (j : Int) (R : Nat) (rs qs : LN) (ar : OA) (cr : Nat), -1 ≤ j ∧ j < (gk : Int) ∧ j < u.length ∧ s8 = .int .i64 j ∧ s7 = .slice ar rs.length cr ∧ rs.length ≤ cr ∧ Hid (rs = Bi.limbs R) ∧ Hid (R < n) ∧
      Hid (Bi.val (qs.drop (j + 1).toNat) * n + R = Bi.val (u.drop (j + 1).toNat)) ∧ Hid (∀ t : Nat, (t : Int) ≤ j → qs.getD t 0 = 0) ∧ Bi.Ok qs ∧ za4 wr w.heap.size (.slice (some ⟨w.heap.size, 0, none⟩) u.length u.length) qs ∧ U wr ar rs ∧ BH w wr)
  case atStart =>
    refine ⟨_, 0, [], _, none, 0, by omega, by omega, by omega, rfl, rfl, nl, hii rfl, hii HN.out, hii ?_, hii ?_, Bi.Ok.replicate _, hown0, U.nil _ _, hb0⟩
    · rw [List.drop_eq_nil_of_le (by simp), List.drop_eq_nil_of_le (by omega)]; simp [Bi.val]
    · intro t _
      rw [List.getD_eq_getElem?_getD, List.getElem?_replicate]
      split <;> rfl
  case round =>
    obtain ⟨j, R, rs, qs, ar, cr, hj1, hjg, hj2, rfl, rfl, hcr, HRS, HR, HI, HZ, hoq, hown, hUR, hbr⟩ := hrel
    have HQ := hii hown.len.1.symm
    clear hown0
    by_cases hj : j < 0
    · obtain rfl : j = -1 := by omega
      clear hu hv
      obtain ⟨aq, cq, eq, hcq, hUq⟩ := hown.read
      simp only [Value.slice.injEq] at eq
      obtain ⟨rfl, eq2, rfl⟩ := eq
      clear eq2
      go_wp2_with fail
      have ht := zbH qs _ u.length wr (by rw [HQ.out]; omega) hcq hUq
      rw [HQ.out] at ht
      (with_reducible refine ht.mono ?_)
      clear ht
      rintro e w7 ⟨Q, hQ, hQl, rfl, hU7, rfl⟩
      have HQQ : Hid (Q = Bi.limbs (Bi.val qs)) := hii (by rw [hQ, Bi.trim_eq_limbs hoq])
      clear hQ
      have h1 := HI.out
      simp only [Int.reduceNeg, Int.reduceAdd, Int.toNat_zero, List.drop_zero] at h1
      have h2 := Bi.short_end HR.out h1
      have hmv : Bi.val u = m := by rw [Hu.out, Bi.val_limbs]
      rw [hmv] at h2
      have HE := hii h2
      clear h1 h2 hmv hown hcq
      go_wp2
      go_ret2
      exact ⟨⟨_, _, Q, rs, _, _, hii (by rw [HQQ.out, HE.out.1]), hii (by rw [HRS.out, HE.out.2]), hQl, hcr, rfl, hii hU7, hii hUR⟩, hbr⟩
    · obtain ⟨i, rfl⟩ : ∃ i : Nat, j = (i : Int) := ⟨j.toNat, by omega⟩
      obtain ⟨x, hx⟩ := zaj (l := u) (k := i) (by omega)
      have bx := Hou.out.at' hx
      obtain ⟨b1, o1, rfl, hcx⟩ := (hu.mono hbr).at' hx
      have HX := hii (Bi.getD_of hx)
      have hrl : rs.length ≤ v.length := by rw [HRS.out, Hv.out]; exact Bi.len_mono (Nat.le_of_lt HR.out)
      have hvr := hv.mono hbr
      have hown1 := za4.lit1 wr (x : Int) x rfl
      have hURr := hUR.mono (bA wr (.cells #[.int .u32 (x : Int)] 128))
      clear hx
      go_wp2_with (at_builtin; refine zcu _ rfl _ _ rfl wr wr.heap.size _ [x] rfl hown1 (by simp) (bA wr _) ar cr rs rfl hURr (by simp; omega) ?_; intro v' w1 hown2 hb1)
      obtain ⟨a2, c2, rfl, hc2, hU2⟩ := hown2.read
      have HAB := hii hown2.above
      have hszw := hown.len.2.2.2
      have hown3 := hown.kept hb1 nl
      have hvr1 := hvr.mono hb1
      have hbr1 := bu hbr hb1
      have hol : Bi.Ok (x :: rs) := Bi.Ok.cons bx (by rw [HRS.out]; exact Bi.limbs_ok _)
      clear hown2 hown hvr hURr hUR hown1 hcx
      simp only [List.singleton_append] at hc2 hU2 ⊢
      (with_reducible refine (zbH (x :: rs) a2 c2 w1 ?_ hc2 hU2).mono ?_)
      · simp; omega
      rintro e w2 ⟨L, hL, hLl, rfl, hUL, rfl⟩
      obtain ⟨R1, hR1⟩ : ∃ R1, R1 = R * 1000000000 + x := ⟨_, rfl⟩
      have HL : Hid (L = Bi.limbs R1) := hii (by
        rw [hL, Bi.trim_eq_limbs hol, Bi.val_cons9, hR1]
        have : Bi.val rs = R := by rw [HRS.out, Bi.val_limbs]
        rw [this])
      have HR1 := hii hR1
      have hLl' : L.length ≤ 100000001 := by simp at hLl; omega
      have hLc : L.length ≤ c2 := Nat.le_trans hLl hc2
      clear hL hR1 hLl hol hU2
      go_wp2_with fail
      (with_reducible refine (zcF R1 n L v HL Hv a2 _ c2 cv w1 ?_ ?_ hUL hvr1).mono ?_)
      · omega
      · omega
      rintro e w2 ⟨rfl, hb2⟩
      have hown4 := hown3.kept hb2 nl
      have hvr2 := hvr1.mono hb2
      have hUL2 := hUL.mono hb2
      have hbr2 := bu hbr1 hb2
      clear hown3 hvr1 hUL
      by_cases hlt : R1 < n
      · have hcmp : zbe R1 n < 0 := by unfold zbe; rw [if_pos hlt]; decide
        have HLT := hii hlt
        have HE := hii (Bi.rdiv_zero (J := ((i : Int) + 1).toNat) HN.out (by omega) HQ.out HX.out (by omega) HI.out (HZ.out i (by omega)) (by rw [← HR1.out]; exact hlt) (I := ((i : Int) - 1 + 1).toNat) (by omega))
        rw [← HR1.out] at HE
        clear hlt hu hv hvr2
        go_wp2
        go_roundg i
        case measure => omega
        case rel => exact ⟨(i : Int) - 1, R1, L, qs, a2, c2, by omega, by omega, by omega, rfl, rfl, hLc, HL, HLT, HE, hii (fun t ht => HZ.out t (by omega)), hoq, hown4, hUL2, hbr2⟩
      · have hcmp : ¬ zbe R1 n < 0 := by unfold zbe; rw [if_neg hlt]; split <;> omega
        have HLE : Hid (n * 1 ≤ R1) := hii (by omega)
        have HTT : Hid (R1 < n * 1000000000) := hii (by
          have h1 := HR.out
          have h2 := HR1.out
          have : (R + 1) * 1000000000 ≤ n * 1000000000 := Nat.mul_le_mul_right _ h1
          omega)
        clear hlt hu
        go_wp2_with fail
        obtain ⟨wo, rfl⟩ := exi w2
        go_loopw [9, 10] (fun s9 s10 wi => ∃ lo hi : Nat, s9 = .int .u64 lo ∧ s10 = .int .u64 hi ∧ 1 ≤ lo ∧ lo < hi ∧ hi ≤ 1000000000 ∧ Hid (n * lo ≤ R1) ∧ Hid (R1 < n * hi) ∧ BH wo wi) (fun s9 s10 _ => (intOf s10 - intOf s9).toNat)
        case atStart => exact ⟨1, 1000000000, rfl, rfl, by omega, by omega, by omega, HLE, HTT, br⟩
        case round =>
          obtain ⟨lo, hi, rfl, rfl, h1, h2, h3, HLO, HHI, hbi⟩ := hrel
          by_cases hgo : (1 : Int) < (hi : Int) - lo
          · obtain ⟨md, hmd⟩ : ∃ md, md = (lo + hi) / 2 := ⟨_, rfl⟩
            have hmd1 : lo < md := by omega
            have hmd2 : md < hi := by omega
            have hmd' : ((lo : Int) + hi) / 2 = (md : Int) := by omega
            have hvi := hvr2.mono hbi
            have hLi := hUL2.mono hbi
            clear hmd hvr2 hUL2
            go_wp2_with fail
            (with_reducible refine (zdx v md _ _ _ ?_ ?_ Hov.out hvi).mono ?_)
            · omega
            · omega
            rintro e w3 ⟨a3, L3, c3, hL3, rfl, hc3, hl3, hU3, hb3⟩
            have HL3 : Hid (L3 = Bi.limbs (n * md)) := hii (by rw [hL3, HVV.out])
            have hL4 := hLi.mono hb3
            clear hL3 hvi hLi
            go_wp2_with fail
            (with_reducible refine (zcF (n * md) R1 L3 L HL3 HL _ _ _ _ w3 ?_ ?_ hU3 hL4).mono ?_)
            · omega
            · omega
            rintro e w4 ⟨rfl, hb4⟩
            have hbf := Below.step (bu hbi hb3) hb4 nl
            clear hU3 hL4
            by_cases hc : n * md ≤ R1
            · have hcmp2 : zbe (n * md) R1 ≤ 0 := by unfold zbe; split; · omega
                                                     · rw [if_neg (by omega)]; omega
              have HC := hii hc
              clear hc
              go_wp2
              go_roundw
              case rel => exact ⟨md, hi, rfl, rfl, by omega, by omega, by omega, HC, HHI, hbf⟩
              case measure => (simp [intOf]; try omega)
            · have hcmp2 : ¬ zbe (n * md) R1 ≤ 0 := by unfold zbe; rw [if_neg (by omega), if_pos (by omega)]; omega
              have HC : Hid (R1 < n * md) := hii (by omega)
              clear hc
              go_wp2
              go_roundw
              case rel => exact ⟨lo, md, rfl, rfl, by omega, by omega, by omega, HLO, HC, hbf⟩
              case measure => (simp [intOf]; try omega)
          · obtain rfl : hi = lo + 1 := by omega
            have hown5 := hown4.kept hbi nl
            have hLi := hUL2.mono hbi
            have hbri := bu hbr2 hbi
            obtain ⟨z, hz⟩ := zaj (l := qs) (k := i) (by rw [HQ.out]; omega)
            have hcz := hown5.at' hz
            have hfz := hown5.free i
            have hlo : lo < 1000000000 := by omega
            have HE := hii (Bi.rdiv_step (J := ((i : Int) + 1).toNat) (low := lo) (by omega) HQ.out HX.out (by omega) HI.out (by rw [← HR1.out]; exact HLO.out) (by rw [← HR1.out]; exact HHI.out) (I := ((i : Int) - 1 + 1).toNat) (by omega))
            rw [← HR1.out] at HE
            have hown6 := hown5.set i (lo : Int) lo rfl
            have htq : zbd w.heap.size wr (wr.setCell ⟨w.heap.size, i, none⟩ (.int .u32 (lo : Int))) := (zbd.refl w.heap.size _).setCell (p := ⟨w.heap.size, i, none⟩) rfl _
            have hLt := hLi.touch htq (fun b off e => by have := HAB.out b off e; omega)
            have hbr6 := hbri.setCell (p := ⟨w.heap.size, i, none⟩) nl (.int .u32 (lo : Int))
            have hv6 := hv.mono hbr6
            clear hz hvr2 hUL2 hown4 hown5 hLi htq
            go_upto_region 15 with fail
            generalize wr.setCell ⟨w.heap.size, i, none⟩ (.int .u32 (lo : Int)) = w5 at *
            clear hcz hfz
            go_wp2_with fail
            (with_reducible refine (zdx v lo _ _ _ ?_ hlo Hov.out hv6).mono ?_)
            · omega
            rintro e w6 ⟨a3, L3, c3, hL3, rfl, hc3, hl3, hU3, hb3⟩
            have HL3 : Hid (L3 = Bi.limbs (n * lo)) := hii (by rw [hL3, HVV.out])
            have hL4 := hLt.mono hb3
            have hown7 := hown6.kept hb3 nl
            have hbr7 := bu hbr6 hb3
            have hvL : Hid (Bi.val L = R1) := hii (by rw [HL.out, Bi.val_limbs])
            have hvL3 : Hid (Bi.val L3 = n * lo) := hii (by rw [HL3.out, Bi.val_limbs])
            have hl34 : L3.length ≤ L.length := by rw [HL3.out, HL.out]; exact Bi.len_mono HLO.out
            clear hL3 hLt hv6
            go_wp2_with fail
            (with_reducible refine (zeD L L3 _ _ _ _ w6 ?_ hl34 (hii ?_) ?_ ?_ hL4 hU3).mono ?_)
            · omega
            · rw [hvL.out, hvL3.out]; exact HLO.out
            · rw [HL.out]; exact Bi.limbs_ok _
            · rw [HL3.out]; exact Bi.limbs_ok _
            rintro e w7 ⟨a8, L8, c8, hL8, rfl, hc8, hl8, hU8, hb8⟩
            have HL8 : Hid (L8 = Bi.limbs (R1 - n * lo)) := hii (by rw [hL8, hvL.out, hvL3.out])
            have hown8 := hown7.kept hb8 nl
            have hbr8 := bu hbr7 hb8
            clear hL8 hown7 hL4 hU3
            go_wp2
            go_roundg i
            case measure => omega
            case rel => exact ⟨(i : Int) - 1, R1 - n * lo, L8, qs.set i lo, a8, c8, by omega, by omega, by omega, rfl, rfl, hc8, HL8, hii HE.out.2, hii HE.out.1, hii (fun t ht => by
              rw [List.getD_eq_getElem?_getD, List.getElem?_set_ne (by omega), ← List.getD_eq_getElem?_getD]; exact HZ.out t (by omega)), hoq.set _ hlo, hown8, hU8, hbr8⟩
theorem zmu (m n:Nat):-1<=zbe m n/\zbe m n<=1:=by unfold zbe; split <;> (try split) <;> omega
theorem zmq (x y:Int):-1<=zdb x y/\zdb x y<=1:=by unfold zdb; split <;> (try split) <;> omega
theorem zhC {x y:Int} (h:zaH x ≠ zaH y):zdb x y=if zaH x < zaH y then -1 else 1:=by
 unfold zaH zdb at *
 by_cases h1:x=0 <;> by_cases h2:y=0 <;> by_cases h3:x < 0 <;> by_cases h4:y < 0 <;> by_cases h5:x < y <;> by_cases h6:y < x <;> simp [h1,h2,h3,h4,h5,h6] at h |- <;> omega
theorem zfT {x y:Int} (h:zaH x=zaH y):zdb x y=if x < 0 then - zbe x.natAbs y.natAbs else zbe x.natAbs y.natAbs:=by
 have h0:(x=0↔y=0)/\(x < 0↔y < 0):=by
  unfold zaH at h
  by_cases h1:x=0 <;> by_cases h2:y=0 <;> by_cases h3:x < 0 <;> by_cases h4:y < 0 <;> simp [h1,h2,h3,h4] at h |-
 unfold zdb zbe
 by_cases h3:x < 0
 ·rw [if_pos h3]
  by_cases h5:x < y
  ·rw [if_pos h5,if_neg (by omega),if_pos (by omega)]
  ·rw [if_neg h5]
   by_cases h6:y < x
   ·rw [if_pos h6,if_pos (by omega)]; rfl
   ·rw [if_neg h6,if_neg (by omega),if_neg (by omega)]; rfl
 ·rw [if_neg h3]
  by_cases h5:x < y
  ·rw [if_pos h5,if_pos (by omega)]
  ·rw [if_neg h5]
   by_cases h6:y < x
   ·rw [if_pos h6,if_neg (by omega),if_pos (by omega)]
   ·rw [if_neg h6,if_neg (by omega),if_neg (by omega)]
theorem zkZ {x y:Int} (h:zaH x=zaH y):zaH x * zbe x.natAbs y.natAbs=zdb x y:=by
 rw [zfT h]
 by_cases h1:x=0
 ·have h2:y=0:=by
   subst h1; unfold zaH at h
   by_cases h2:y=0
   ·exact h2
   ·by_cases h4:y < 0 <;> simp [h2,h4] at h
  subst h1 h2; decide
 ·unfold zaH
  by_cases h3:x < 0 <;> simp [h1,h3]
theorem zmU (a b:Vl) (x y:Int) (w:Wo) (ha:zah w a x) (hb:zah w b y) (hE:Env w) :
  CP 97 #[a,b] w λ e w' => e=.returned (.int .i64 (zdb x y))/\BH w w':=by
 obtain ⟨n1,ao1,L1,c1,rfl,Hn1,HL1,HB1,hc1,hl1,hU1⟩:=ha;obtain ⟨n2,ao2,L2,c2,rfl,Hn2,HL2,HB2,hc2,hl2,hU2⟩:=hb;go_enter func97,ntmps97;go_wp2_with fail;obtain ⟨wx,hwx,hsz,B1,B2,hbx⟩:=zhG w (.bool n1) (.slice ao1 L1.length c1) (.bool n2) (.slice ao2 L2.length c2) 30;rw [<- hwx];clear hwx;(with_reducible refine (zem wx _ hsz n1 n2 ao1 ao2 L1 L2 c1 c2 (hU1.mono hbx) (hU2.mono hbx) ?_ ?_ (hE.mono hbx)).mono ?_)
 ·omega
 ·omega
 rintro e w1 ⟨⟨r,HR,HR2,rfl⟩,hb1'⟩;obtain rfl:r=0:=HR.out.2 ⟨zaz x n1 L1 Hn1.out HL1.out HB1.out,zaz y n2 L2 Hn2.out HL2.out HB2.out⟩;clear HR HR2;have B1:=B1.mono hb1';have B2:=B2.mono hb1';have hbw:=Below.step hbx hb1' nl;have hbd:=hbw.drew;have D1:=B1.mono ((Below.refl w1.heap.size w1).drew);have D2:=B2.mono ((Below.refl w1.heap.size w1).drew);have hX1:=hU1.mono hbd;have hX2:=hU2.mono hbd;have hV1:zah w1.drew (.agg #[.bool n1,.slice ao1 L1.length c1]) x:=⟨n1,ao1,L1,c1,rfl,Hn1,HL1,HB1,hc1,hl1,hX1⟩;have hV2:zah w1.drew (.agg #[.bool n2,.slice ao2 L2.length c2]) y:=⟨n2,ao2,L2,c2,rfl,Hn2,HL2,HB2,hc2,hl2,hX2⟩;clear hU1 hU2 hE hsz;obtain ⟨a0,a1,_,_⟩:=B1;obtain ⟨b0,b1,_,_⟩:=B2;go_wp2_with fail;go_region_held3 (λ w' => w'.cell? ⟨w.heap.size,0,none⟩=some (.bool n1)/\w'.cell? ⟨w.heap.size,1,none⟩=some (.slice ao1 L1.length c1)/\w'.cell? ⟨w.heap.size + 1,0,none⟩=some (.bool n2)/\w'.cell? ⟨w.heap.size + 1,1,none⟩=some (.slice ao2 L2.length c2))
  (first | (with_reducible exact ⟨a0,a1,b0,b1⟩) | (with_reducible exact ⟨D1.c0,D1.c1,D2.c0,D2.c1⟩) | (with_reducible exact ⟨E1.c0,E1.c1,E2.c0,E2.c1⟩) | (with_reducible exact ⟨F1.c0,F1.c1,F2.c0,F2.c1⟩) | (simp [F1.c0,F1.c1,F2.c0,F2.c1,go_sem]; done))
  (first
   | (go_at_call 141; go_fit (zeA _ x _ hV1); rintro e w2 ⟨rfl,hb2⟩; have E1:=D1.mono hb2; have E2:=D2.mono hb2; have hW2:=hV2.mono hb2)
   | (go_at_call 141; go_fit (zeA _ y _ hW2); rintro e w3 ⟨rfl,hb3⟩; have F1:=E1.mono hb3; have F2:=E2.mono hb3))
 have hbw3:=Below.step (bu hbd hb2) hb3 nl;have hY1:=(hX1.mono hb2).mono hb3;have hY2:=(hX2.mono hb2).mono hb3;clear hX1 hX2 hV1 hV2 hW2 a0 a1 b0 b1 D1 D2 E1 E2;obtain ⟨a0,a1,_,_⟩:=F1;obtain ⟨b0,b1,_,_⟩:=F2
 by_cases hs:zaH x=zaH y
 ·have hsb:(zaH x != zaH y)=false:=by rw [bne_eq_false_iff_eq]; exact hs
  have HC:=hii (zfT hs);clear hs;go_wp2_with fail;(with_reducible refine (zbc x.natAbs y.natAbs L1 L2 HL1 HL2 ao1 ao2 c1 c2 w3 ?_ ?_ hY1 hY2).mono ?_)
  ·omega
  ·omega
  rintro e w4 ⟨rfl,hb4⟩;have hcb:=zmu x.natAbs y.natAbs;have a0:w4.cell? ⟨w.heap.size,0,none⟩=some (.bool n1):=(hb4.cell (p:=⟨w.heap.size,0,none⟩) (zag a0)).trans a0;have hbw4:=bu hbw3 hb4;obtain ⟨hcb1,hcb2⟩:=hcb;clear hY1 hY2 a1 b0 b1
  cases n1
  ·have hx:¬ x < 0:=by have:=Hn1.out; simpa using this
   have HR:Hid (zdb x y=zbe x.natAbs y.natAbs):=hii (by rw [HC.out,if_neg hx]);clear hx;go_wp2;go_ret;exact ⟨zaA HR.out.symm,hbw4⟩
  ·have hx:x < 0:=by have:=Hn1.out; simpa using this
   have HR:Hid (zdb x y=- zbe x.natAbs y.natAbs):=hii (by rw [HC.out,if_pos hx]);clear hx;go_wp2;go_ret;exact ⟨zaA HR.out.symm,hbw4⟩
 ·have hsb:(zaH x != zaH y)=true:=by rw [bne_iff_ne]; exact hs
  have HC:=hii (zhC hs);clear hs
  by_cases hlt:zaH x < zaH y
  ·have HR:Hid (zdb x y=-1):=hii (by rw [HC.out,if_pos hlt]);go_wp2;go_ret;exact ⟨zaA HR.out.symm,hbw3⟩
  ·have HR:Hid (zdb x y=1):=hii (by rw [HC.out,if_neg hlt]);go_wp2;go_ret;exact ⟨zaA HR.out.symm,hbw3⟩
theorem zky (a b:Vl) (x y:Int) (w:Wo) (ha:zah w a x) (hb:zah w b y) :
  CP 54 #[a,b] w λ e w' => e=.returned (.int .i64 (zdb x y))/\BH w w':=by
 obtain ⟨n1,ao1,L1,c1,rfl,Hn1,HL1,HB1,hc1,hl1,hU1⟩:=ha;obtain ⟨n2,ao2,L2,c2,rfl,Hn2,HL2,HB2,hc2,hl2,hU2⟩:=hb;go_enter func54,ntmps54;go_wp2_with fail;obtain ⟨wx,hwx,hsz,B1,B2,hbx⟩:=zhG w (.bool n1) (.slice ao1 L1.length c1) (.bool n2) (.slice ao2 L2.length c2) 30;rw [<- hwx];clear hwx;have hbd:=hbx.drew;have D1:=B1.mono ((Below.refl wx.heap.size wx).drew);have D2:=B2.mono ((Below.refl wx.heap.size wx).drew);have hX1:=hU1.mono hbd;have hX2:=hU2.mono hbd;have hV1:zah wx.drew (.agg #[.bool n1,.slice ao1 L1.length c1]) x:=⟨n1,ao1,L1,c1,rfl,Hn1,HL1,HB1,hc1,hl1,hX1⟩;have hV2:zah wx.drew (.agg #[.bool n2,.slice ao2 L2.length c2]) y:=⟨n2,ao2,L2,c2,rfl,Hn2,HL2,HB2,hc2,hl2,hX2⟩;clear hU1 hU2 hsz;obtain ⟨a0,a1,_,_⟩:=B1;obtain ⟨b0,b1,_,_⟩:=B2;go_region_held3 (λ w' => w'.cell? ⟨w.heap.size,0,none⟩=some (.bool n1)/\w'.cell? ⟨w.heap.size,1,none⟩=some (.slice ao1 L1.length c1)/\w'.cell? ⟨w.heap.size + 1,0,none⟩=some (.bool n2)/\w'.cell? ⟨w.heap.size + 1,1,none⟩=some (.slice ao2 L2.length c2))
  (first | (with_reducible exact ⟨a0,a1,b0,b1⟩) | (with_reducible exact ⟨D1.c0,D1.c1,D2.c0,D2.c1⟩) | (with_reducible exact ⟨E1.c0,E1.c1,E2.c0,E2.c1⟩) | (with_reducible exact ⟨F1.c0,F1.c1,F2.c0,F2.c1⟩) | (simp [F1.c0,F1.c1,F2.c0,F2.c1,go_sem]; done))
  (first
   | (go_at_call 78; go_fit (zca _ x _ hV1); rintro e w2 ⟨rfl,hb2⟩; have E1:=D1.mono hb2; have E2:=D2.mono hb2; have hW2:=hV2.mono hb2)
   | (go_at_call 78; go_fit (zca _ y _ hW2); rintro e w3 ⟨rfl,hb3⟩; have F1:=E1.mono hb3; have F2:=E2.mono hb3))
 have hbw3:=Below.step (bu hbd hb2) hb3 nl;have hV1:=(hV1.mono hb2).mono hb3;have hV2:=hW2.mono hb3;have hY1:=(hX1.mono hb2).mono hb3;have hY2:=(hX2.mono hb2).mono hb3;clear hX1 hX2 a0 a1 b0 b1 D1 D2 E1 E2 hW2 hb2 hb3 hbd hbx;have hbd3:=hbw3.drew;have D1:=F1.mono ((Below.refl w3.heap.size w3).drew);have D2:=F2.mono ((Below.refl w3.heap.size w3).drew);have hV1:=hV1.mono ((Below.refl w3.heap.size w3).drew);have hV2:=hV2.mono ((Below.refl w3.heap.size w3).drew);have hY1:=hY1.mono ((Below.refl w3.heap.size w3).drew);have hY2:=hY2.mono ((Below.refl w3.heap.size w3).drew);obtain ⟨a0,a1,_,_⟩:=F1;obtain ⟨b0,b1,_,_⟩:=F2
 by_cases hs:zaH x=zaH y
 ·have hsb:(zaH x != zaH y)=false:=by rw [bne_eq_false_iff_eq]; exact hs
  have hwr:IntKind.i64.wrap (zaH x * zbe x.natAbs y.natAbs)=zdb x y:=by
   rw [zkZ hs]; have:=zmq x y; exact IntWalk.i64_in _ (by omega)
  clear hs;go_wp2_with fail;go_region_held3 (λ w' => w'.cell? ⟨w.heap.size,0,none⟩=some (.bool n1)/\w'.cell? ⟨w.heap.size,1,none⟩=some (.slice ao1 L1.length c1)/\w'.cell? ⟨w.heap.size + 1,0,none⟩=some (.bool n2)/\w'.cell? ⟨w.heap.size + 1,1,none⟩=some (.slice ao2 L2.length c2))
   (first | (with_reducible exact ⟨a0,a1,b0,b1⟩) | (with_reducible exact ⟨D1.c0,D1.c1,D2.c0,D2.c1⟩) | (with_reducible exact ⟨E1.c0,E1.c1,E2.c0,E2.c1⟩) | (with_reducible exact ⟨F1.c0,F1.c1,F2.c0,F2.c1⟩) | (simp [F1.c0,F1.c1,F2.c0,F2.c1,go_sem]; done))
   (first
    | (go_at_call 78; go_fit (zca _ x _ hV1); rintro e w2 ⟨rfl,hb2⟩; have E1:=D1.mono hb2; have E2:=D2.mono hb2; have hZ1:=hY1.mono hb2; have hZ2:=hY2.mono hb2)
    | (go_at_call 100; ((with_reducible refine (zcF x.natAbs y.natAbs L1 L2 HL1 HL2 _ _ _ _ _ ?_ ?_ hZ1 hZ2).mono ?_); (omega); (omega)); rintro e w4 ⟨rfl,hb4⟩; have F1:=E1.mono hb4; have F2:=E2.mono hb4))
  go_wp2;go_ret;exact ⟨rfl,Below.step (bu hbd3 hb2) hb4 nl⟩
 ·have hsb:(zaH x != zaH y)=true:=by rw [bne_iff_ne]; exact hs
  have HC:=hii (zhC hs);clear hs hY1 hY2;go_wp2_with fail;go_region_held3 (λ w' => w'.cell? ⟨w.heap.size,0,none⟩=some (.bool n1)/\w'.cell? ⟨w.heap.size,1,none⟩=some (.slice ao1 L1.length c1)/\w'.cell? ⟨w.heap.size + 1,0,none⟩=some (.bool n2)/\w'.cell? ⟨w.heap.size + 1,1,none⟩=some (.slice ao2 L2.length c2))
   (first | (with_reducible exact ⟨a0,a1,b0,b1⟩) | (with_reducible exact ⟨D1.c0,D1.c1,D2.c0,D2.c1⟩) | (with_reducible exact ⟨E1.c0,E1.c1,E2.c0,E2.c1⟩) | (with_reducible exact ⟨F1.c0,F1.c1,F2.c0,F2.c1⟩) | (simp [F1.c0,F1.c1,F2.c0,F2.c1,go_sem]; done))
   (first
    | (go_at_call 78; go_fit (zca _ x _ hV1); rintro e w2 ⟨rfl,hb2⟩; have E1:=D1.mono hb2; have E2:=D2.mono hb2; have hW2:=hV2.mono hb2)
    | (go_at_call 78; go_fit (zca _ y _ hW2); rintro e w4 ⟨rfl,hb4⟩; have F1:=E1.mono hb4; have F2:=E2.mono hb4))
  have hbf:=Below.step (bu hbd3 hb2) hb4 nl
  by_cases hlt:zaH x < zaH y
  ·have HR:Hid (zdb x y=-1):=hii (by rw [HC.out,if_pos hlt]);go_wp2;go_ret;exact ⟨zaA HR.out.symm,hbf⟩
  ·have HR:Hid (zdb x y=1):=hii (by rw [HC.out,if_neg hlt]);go_wp2;go_ret;exact ⟨zaA HR.out.symm,hbf⟩
theorem zi4 (n:Bool) (m1 m2:Nat) (ao1 ao2:OA) (L1 L2:LN) (c1 c2:Nat) (w:Wo) (HL1:Hid (L1=Bi.limbs m1)) (HL2:Hid (L2=Bi.limbs m2)) (hl1:L1.length<=34) (hl2:L2.length<=34)
  (hU1:U w ao1 L1) (hU2:U w ao2 L2) :
  CP 99 #[.agg #[.bool n,.slice ao1 L1.length c1],.agg #[.bool n,.slice ao2 L2.length c2]] w λ e w' => ze8 w' (sgn n m1 + sgn n m2) e/\BH w w':=by
 have hnn:(n == n)=true:=by simp
 have Ho1:Hid (Bi.Ok L1):=hii (by rw [HL1.out]; exact Bi.limbs_ok _);have Ho2:Hid (Bi.Ok L2):=hii (by rw [HL2.out]; exact Bi.limbs_ok _);have hvl:Hid (Bi.val L1=m1/\Bi.val L2=m2):=hii (by rw [HL1.out,HL2.out,Bi.val_limbs,Bi.val_limbs]; exact ⟨rfl,rfl⟩);go_enter func99,ntmps99;go_wp2_with fail;obtain ⟨wx,hwx,hsz,B1,B2,B3,hbx⟩:=zbN w (.bool n) (.slice ao1 L1.length c1) (.bool n) (.slice ao2 L2.length c2) bF_ nS_ 30;rw [<- hwx];clear hwx;obtain ⟨w0,rfl⟩:=exi wx;have hb0':=hbx;have hbd:Below w.heap.size w w0.drew:=hb0'.drew;have hX1:=hU1.mono hbd;have hX2:=hU2.mono hbd;have D1:=B1.mono ((Below.refl w0.heap.size w0).drew);have D2:=B2.mono ((Below.refl w0.heap.size w0).drew);have D3:=B3.mono ((Below.refl w0.heap.size w0).drew);obtain ⟨z0,z1,_,_⟩:=B1;obtain ⟨y0,y1,_,_⟩:=B2;clear hU1 hU2;go_wp2_with fail;go_region_held3 (λ w' => w'.cell? ⟨w.heap.size,0,none⟩=some (.bool n)/\w'.cell? ⟨w.heap.size,1,none⟩=some (.slice ao1 L1.length c1)/\w'.cell? ⟨w.heap.size + 1,1,none⟩=some (.slice ao2 L2.length c2))
  (first | (with_reducible exact ⟨z0,z1,y1⟩) | (with_reducible exact ⟨D1.c0,D1.c1,D2.c1⟩) | (with_reducible exact ⟨E1.c0,E1.c1,E2.c1⟩) | (with_reducible exact ⟨F1.c0,F1.c1,F2.c1⟩) | (simp [F1.c0,F1.c1,F2.c1,go_sem]; done))
  (first
   | (go_at_call 131; ((with_reducible refine (zg7 L1 L2 _ _ _ _ _ ?_ ?_ Ho1.out Ho2.out hX1 hX2).mono ?_); (omega); (omega)); rintro e w1 ⟨ao,L,cap,hL,rfl,hcap,hlL,hUL,hb1⟩; have HL:=hii hL; clear hL; have E1:=D1.mono hb1; have E2:=D2.mono hb1; have E3:=D3.mono hb1)
   | (go_at_call 80; ((with_reducible refine (za7 n _ _ _ _ ?_ hUL (hii ?_)).mono ?_); (omega); (rw [HL.out]; exact Bi.limbs_ok _)); rintro e w2 ⟨⟨ng,ao3,n3,Y3,k3,rfl,HR⟩,hb2⟩; have F1:=E1.mono hb2; have F2:=E2.mono hb2; obtain ⟨p0,p1,q0,q1⟩:=E3.mono hb2))
 go_wp2;refine bodyPost_ret (v:=.tuple #[.agg #[.bool ng,.slice ao3 n3 Y3],.int .i64 k3]) (by simp [results,Tryz.results99,go_sem,p0,p1]) rfl ⟨⟨ng,ao3,n3,Y3,k3,rfl,hii ?_⟩,?_⟩
 ·have:=HR.out.put2 p0 p1 (.bool ng) (.slice ao3 n3 Y3);rw [HL.out,Bi.val_limbs,hvl.out.1,hvl.out.2] at this;rw [ziR] at this;exact this
 ·exact Below.put2 (Below.step (bu hbd hb1) hb2 nl) (by omega) _ _
theorem zl4 (n1 n2:Bool) (hnn:(n1 == n2)=false) (m1 m2:Nat) (hle:Hid (m2<=m1)) (ao1 ao2:OA) (L1 L2:LN) (c1 c2:Nat) (w:Wo) (HL1:Hid (L1=Bi.limbs m1)) (HL2:Hid (L2=Bi.limbs m2)) (hl1:L1.length<=34) (hl2:L2.length<=34)
  (hU1:U w ao1 L1) (hU2:U w ao2 L2) :
  CP 99 #[.agg #[.bool n1,.slice ao1 L1.length c1],.agg #[.bool n2,.slice ao2 L2.length c2]] w λ e w' => ze8 w' (sgn n1 m1 + sgn n2 m2) e/\BH w w':=by
 have hll:L2.length<=L1.length:=by rw [HL1.out,HL2.out]; exact Bi.len_mono hle.out
 have Ho1:Hid (Bi.Ok L1):=hii (by rw [HL1.out]; exact Bi.limbs_ok _);have Ho2:Hid (Bi.Ok L2):=hii (by rw [HL2.out]; exact Bi.limbs_ok _);have hvl:Hid (Bi.val L1=m1/\Bi.val L2=m2):=hii (by rw [HL1.out,HL2.out,Bi.val_limbs,Bi.val_limbs]; exact ⟨rfl,rfl⟩);go_enter func99,ntmps99;go_wp2_with fail;obtain ⟨wx,hwx,hsz,B1,B2,B3,hbx⟩:=zbN w (.bool n1) (.slice ao1 L1.length c1) (.bool n2) (.slice ao2 L2.length c2) bF_ nS_ 30;rw [<- hwx];clear hwx;(with_reducible refine (zcF m1 m2 L1 L2 HL1 HL2 ao1 ao2 c1 c2 wx ?_ ?_ (hU1.mono hbx) (hU2.mono hbx)).mono ?_)
 ·omega
 ·omega
 rintro e w0 ⟨rfl,hb0⟩;have hcmp:0<=zbe m1 m2:=by have:=hle.out; unfold zbe; rw [if_neg (by omega)]; split <;> omega
 have hb0':=bu hbx hb0;have B1:=B1.mono hb0;have B2:=B2.mono hb0;have B3:=B3.mono hb0;have hbd:Below w.heap.size w w0.drew:=hb0'.drew;have hX1:=hU1.mono hbd;have hX2:=hU2.mono hbd;have D1:=B1.mono ((Below.refl w0.heap.size w0).drew);have D2:=B2.mono ((Below.refl w0.heap.size w0).drew);have D3:=B3.mono ((Below.refl w0.heap.size w0).drew);obtain ⟨z0,z1,_,_⟩:=B1;obtain ⟨y0,y1,_,_⟩:=B2;clear hU1 hU2;go_wp2_with fail;go_region_held3 (λ w' => w'.cell? ⟨w.heap.size,0,none⟩=some (.bool n1)/\w'.cell? ⟨w.heap.size,1,none⟩=some (.slice ao1 L1.length c1)/\w'.cell? ⟨w.heap.size + 1,1,none⟩=some (.slice ao2 L2.length c2))
  (first | (with_reducible exact ⟨z0,z1,y1⟩) | (with_reducible exact ⟨D1.c0,D1.c1,D2.c1⟩) | (with_reducible exact ⟨E1.c0,E1.c1,E2.c1⟩) | (with_reducible exact ⟨F1.c0,F1.c1,F2.c1⟩) | (simp [F1.c0,F1.c1,F2.c1,go_sem]; done))
  (first
   | (go_at_call 143; ((with_reducible refine (zeD L1 L2 _ _ _ _ _ ?_ hll (hii ?_) Ho1.out Ho2.out hX1 hX2).mono ?_); (omega); (rw [hvl.out.1,hvl.out.2]; have:=hle.out; omega)); rintro e w1 ⟨ao,L,cap,hL,rfl,hcap,hlL,hUL,hb1⟩; have HL:=hii hL; clear hL; have E1:=D1.mono hb1; have E2:=D2.mono hb1; have E3:=D3.mono hb1)
   | (go_at_call 80; ((with_reducible refine (za7 n1 _ _ _ _ ?_ hUL (hii ?_)).mono ?_); (omega); (rw [HL.out]; exact Bi.limbs_ok _)); rintro e w2 ⟨⟨ng,ao3,n3,Y3,k3,rfl,HR⟩,hb2⟩; have F1:=E1.mono hb2; have F2:=E2.mono hb2; obtain ⟨p0,p1,q0,q1⟩:=E3.mono hb2))
 go_wp2;refine bodyPost_ret (v:=.tuple #[.agg #[.bool ng,.slice ao3 n3 Y3],.int .i64 k3]) (by simp [results,Tryz.results99,go_sem,p0,p1]) rfl ⟨⟨ng,ao3,n3,Y3,k3,rfl,hii ?_⟩,?_⟩
 ·have:=HR.out.put2 p0 p1 (.bool ng) (.slice ao3 n3 Y3);rw [HL.out,Bi.val_limbs,hvl.out.1,hvl.out.2] at this;rw [zcH n1 n2 m1 m2 (by rintro rfl; simp at hnn) hle.out] at this;exact this
 ·exact Below.put2 (Below.step (bu hbd hb1) hb2 nl) (by omega) _ _
theorem zl2 (n1 n2:Bool) (hnn:(n1 == n2)=false) (m1 m2:Nat) (hle:Hid (m1 < m2)) (ao1 ao2:OA) (L1 L2:LN) (c1 c2:Nat) (w:Wo) (HL1:Hid (L1=Bi.limbs m1)) (HL2:Hid (L2=Bi.limbs m2)) (hl1:L1.length<=34) (hl2:L2.length<=34)
  (hU1:U w ao1 L1) (hU2:U w ao2 L2) :
  CP 99 #[.agg #[.bool n1,.slice ao1 L1.length c1],.agg #[.bool n2,.slice ao2 L2.length c2]] w λ e w' => ze8 w' (sgn n1 m1 + sgn n2 m2) e/\BH w w':=by
 have hll:L1.length<=L2.length:=by rw [HL1.out,HL2.out]; exact Bi.len_mono (Nat.le_of_lt hle.out)
 have Ho1:Hid (Bi.Ok L1):=hii (by rw [HL1.out]; exact Bi.limbs_ok _);have Ho2:Hid (Bi.Ok L2):=hii (by rw [HL2.out]; exact Bi.limbs_ok _);have hvl:Hid (Bi.val L1=m1/\Bi.val L2=m2):=hii (by rw [HL1.out,HL2.out,Bi.val_limbs,Bi.val_limbs]; exact ⟨rfl,rfl⟩);go_enter func99,ntmps99;go_wp2_with fail;obtain ⟨wx,hwx,hsz,B1,B2,B3,hbx⟩:=zbN w (.bool n1) (.slice ao1 L1.length c1) (.bool n2) (.slice ao2 L2.length c2) bF_ nS_ 30;rw [<- hwx];clear hwx;(with_reducible refine (zcF m1 m2 L1 L2 HL1 HL2 ao1 ao2 c1 c2 wx ?_ ?_ (hU1.mono hbx) (hU2.mono hbx)).mono ?_)
 ·omega
 ·omega
 rintro e w0 ⟨rfl,hb0⟩;have hcmp:zbe m1 m2 < 0:=by have:=hle.out; unfold zbe; rw [if_pos this]; decide
 have hb0':=bu hbx hb0;have B1:=B1.mono hb0;have B2:=B2.mono hb0;have B3:=B3.mono hb0;have hbd:Below w.heap.size w w0.drew:=hb0'.drew;have hX1:=hU1.mono hbd;have hX2:=hU2.mono hbd;have D1:=B1.mono ((Below.refl w0.heap.size w0).drew);have D2:=B2.mono ((Below.refl w0.heap.size w0).drew);have D3:=B3.mono ((Below.refl w0.heap.size w0).drew);obtain ⟨z0,z1,_,_⟩:=B1;obtain ⟨y0,y1,_,_⟩:=B2;clear hU1 hU2;go_wp2_with fail;go_region_held3 (λ w' => w'.cell? ⟨w.heap.size + 1,0,none⟩=some (.bool n2)/\w'.cell? ⟨w.heap.size + 1,1,none⟩=some (.slice ao2 L2.length c2)/\w'.cell? ⟨w.heap.size,1,none⟩=some (.slice ao1 L1.length c1))
  (first | (with_reducible exact ⟨y0,y1,z1⟩) | (with_reducible exact ⟨D2.c0,D2.c1,D1.c1⟩) | (with_reducible exact ⟨E2.c0,E2.c1,E1.c1⟩) | (with_reducible exact ⟨F2.c0,F2.c1,F1.c1⟩) | (simp [F2.c0,F2.c1,F1.c1,go_sem]; done))
  (first
   | (go_at_call 143; ((with_reducible refine (zeD L2 L1 _ _ _ _ _ ?_ hll (hii ?_) Ho2.out Ho1.out hX2 hX1).mono ?_); (omega); (rw [hvl.out.1,hvl.out.2]; have:=hle.out; omega)); rintro e w1 ⟨ao,L,cap,hL,rfl,hcap,hlL,hUL,hb1⟩; have HL:=hii hL; clear hL; have E1:=D1.mono hb1; have E2:=D2.mono hb1; have E3:=D3.mono hb1)
   | (go_at_call 80; ((with_reducible refine (za7 n2 _ _ _ _ ?_ hUL (hii ?_)).mono ?_); (omega); (rw [HL.out]; exact Bi.limbs_ok _)); rintro e w2 ⟨⟨ng,ao3,n3,Y3,k3,rfl,HR⟩,hb2⟩; have F1:=E1.mono hb2; have F2:=E2.mono hb2; obtain ⟨p0,p1,q0,q1⟩:=E3.mono hb2))
 go_wp2;refine bodyPost_ret (v:=.tuple #[.agg #[.bool ng,.slice ao3 n3 Y3],.int .i64 k3]) (by simp [results,Tryz.results99,go_sem,p0,p1]) rfl ⟨⟨ng,ao3,n3,Y3,k3,rfl,hii ?_⟩,?_⟩
 ·have:=HR.out.put2 p0 p1 (.bool ng) (.slice ao3 n3 Y3);rw [HL.out,Bi.val_limbs,hvl.out.1,hvl.out.2] at this;rw [show sgn n2 (m2 - m1)=sgn n1 m1 + sgn n2 m2 by rw [Int.add_comm]; exact zcH n2 n1 m2 m1 (by rintro rfl; simp at hnn) (Nat.le_of_lt hle.out)] at this;exact this
 ·exact Below.put2 (Below.step (bu hbd hb1) hb2 nl) (by omega) _ _
theorem zhd (a b:Vl) (x y:Int) (w:Wo) (ha:zah w a x) (hb:zah w b y) :
  CP 99 #[a,b] w λ e w' => ze8 w' (x + y) e/\BH w w':=by
 obtain ⟨n1,ao1,L1,c1,rfl,Hn1,HL1,HB1,hc1,hl1,hU1⟩:=ha;obtain ⟨n2,ao2,L2,c2,rfl,Hn2,HL2,HB2,hc2,hl2,hU2⟩:=hb;have e1:=zby x n1 Hn1.out;have e2:=zby y n2 Hn2.out
 by_cases hn:n1=n2
 ·subst hn;have:=zi4 n1 x.natAbs y.natAbs ao1 ao2 L1 L2 c1 c2 w HL1 HL2 hl1 hl2 hU1 hU2
  rwa [e1,e2] at this
 ·have hnn:(n1 == n2)=false:=by simpa using hn
  rcases Nat.lt_or_ge x.natAbs y.natAbs with h | h
  ·have:=zl2 n1 n2 hnn x.natAbs y.natAbs (hii h) ao1 ao2 L1 L2 c1 c2 w HL1 HL2 hl1 hl2 hU1 hU2
   rwa [e1,e2] at this
  ·have:=zl4 n1 n2 hnn x.natAbs y.natAbs (hii h) ao1 ao2 L1 L2 c1 c2 w HL1 HL2 hl1 hl2 hU1 hU2
   rwa [e1,e2] at this
theorem zha (a b:Vl) (x y:Int) (w:Wo) (ha:zah w a x) (hb:zah w b y) :
  CP 33 #[a,b] w λ e w' => ze8 w' (x * y) e/\BH w w':=by
 obtain ⟨n1,ao1,L1,c1,rfl,Hn1,HL1,HB1,hc1,hl1,hU1⟩:=ha;obtain ⟨n2,ao2,L2,c2,rfl,Hn2,HL2,HB2,hc2,hl2,hU2⟩:=hb;have Ho1:Hid (Bi.Ok L1):=hii (by rw [HL1.out]; exact Bi.limbs_ok _);have Ho2:Hid (Bi.Ok L2):=hii (by rw [HL2.out]; exact Bi.limbs_ok _);go_enter func33,ntmps33;go_wp2_with fail;obtain ⟨wx,hwx,hsz,B1,B2,B3,hbx⟩:=zbN w (.bool n1) (.slice ao1 L1.length c1) (.bool n2) (.slice ao2 L2.length c2) bF_ nS_ 30;rw [<- hwx];clear hwx;have hbd:=hbx.drew;have D1:=B1.mono ((Below.refl wx.heap.size wx).drew);have D2:=B2.mono ((Below.refl wx.heap.size wx).drew);have D3:=B3.mono ((Below.refl wx.heap.size wx).drew);have hX1:=hU1.mono hbd;have hX2:=hU2.mono hbd;clear hU1 hU2;go_region_held3 (λ w' => w'.cell? ⟨w.heap.size,0,none⟩=some (.bool n1)/\w'.cell? ⟨w.heap.size + 1,0,none⟩=some (.bool n2)/\w'.cell? ⟨w.heap.size,1,none⟩=some (.slice ao1 L1.length c1)/\w'.cell? ⟨w.heap.size + 1,1,none⟩=some (.slice ao2 L2.length c2))
  (first | (with_reducible exact ⟨B1.c0,B2.c0,B1.c1,B2.c1⟩) | (with_reducible exact ⟨D1.c0,D2.c0,D1.c1,D2.c1⟩) | (with_reducible exact ⟨E1.c0,E2.c0,E1.c1,E2.c1⟩) | (with_reducible exact ⟨F1.c0,F2.c0,F1.c1,F2.c1⟩) | (simp [F1.c0,F2.c0,F1.c1,F2.c1,go_sem]; done))
  (first
   | (go_at_call 81; ((with_reducible refine (zkt L1 L2 _ _ _ _ _ ?_ ?_ Ho1.out Ho2.out hX1 hX2).mono ?_); (omega); (omega)); rintro e w2 ⟨ao,L,cap,hL,rfl,hcap,hUL,hb2⟩; have HL:=hii hL; clear hL; have E1:=D1.mono hb2; have E2:=D2.mono hb2; have E3:=D3.mono hb2)
   | (go_at_call 80; ((with_reducible refine (za7 (!(n1 == n2)) _ _ _ _ ?_ hUL (hii ?_)).mono ?_); (rw [HL.out]; exact Nat.le_trans (Bi.limbs_length_le (Bi.val_mul_lt Ho1.out Ho2.out)) (by omega)); (rw [HL.out]; exact Bi.limbs_ok _)); rintro e w3 ⟨⟨ng,ao3,n3,Y3,k3,rfl,HR⟩,hb3⟩; have F1:=E1.mono hb3; have F2:=E2.mono hb3; obtain ⟨p0,p1,q0,q1⟩:=E3.mono hb3))
 go_wp2;refine bodyPost_ret (v:=.tuple #[.agg #[.bool ng,.slice ao3 n3 Y3],.int .i64 k3]) (by simp [results,Tryz.results33,go_sem,p0,p1]) rfl ⟨⟨ng,ao3,n3,Y3,k3,rfl,hii ?_⟩,?_⟩
 ·have:=HR.out.put2 p0 p1 (.bool ng) (.slice ao3 n3 Y3);rw [HL.out,Bi.val_limbs,HL1.out,HL2.out,Bi.val_limbs,Bi.val_limbs] at this;have h4:sgn (!(n1 == n2)) (x.natAbs * y.natAbs)=x * y:=by
   have e1:=zby x n1 Hn1.out;have e2:=zby y n2 Hn2.out;rw [<- e1,<- e2,zao,zao];unfold sgn
   cases n1 <;> cases n2 <;> simp [Int.mul_neg,Int.neg_mul]
  rw [h4] at this;exact this
 ·exact Below.put2 (Below.step (bu hbd hb2) hb3 nl) (by omega) _ _
theorem zkx (a b:Vl) (x y:Int) (w:Wo) (ha:zah w a x) (hb:zah w b y) (hy0:Hid (y ≠ 0)) :
  CP 83 #[a,b] w λ e w' => zo5 w' (x.tdiv y) (x.tmod y) e/\BH w w':=by
 obtain ⟨n1,ao1,L1,c1,rfl,Hn1,HL1,HB1,hc1,hl1,hU1⟩:=ha;obtain ⟨n2,ao2,L2,c2,rfl,Hn2,HL2,HB2,hc2,hl2,hU2⟩:=hb;have hL2:0 < L2.length:=by
  rcases Nat.eq_zero_or_pos L2.length with h | h
  ·have h2:=HL2.out;rw [List.length_eq_zero_iff.1 h] at h2;have:=Bi.limbs_eq_nil.1 h2.symm;have:=hy0.out;omega
  ·exact h
 have hLz:((L2.length:Int) == 0)=false:=by rw [beq_eq_false_iff_ne]; omega
 go_enter func83,ntmps83;go_wp2_with fail;obtain ⟨wx,hwx,hsz,B1,B2,B3,B4,hbx⟩:=zlx w (.bool n1) (.slice ao1 L1.length c1) (.bool n2) (.slice ao2 L2.length c2) bF_ nS_ bF_ nS_ 30;rw [<- hwx];clear hwx;obtain ⟨w1,rfl⟩:=exi wx;have hbw:=hbx;have hX1:=hU1.mono hbw;have hX2:=hU2.mono hbw;have hlt4:=B4.lt;clear hU1 hU2 hsz;obtain ⟨a0,a1,_,_⟩:=B1;obtain ⟨b0,b1,_,_⟩:=B2;go_wp2_with fail;(with_reducible refine (zg6 x.natAbs y.natAbs L1 L2 HL1 HL2 ao1 ao2 c1 c2 w1 ?_ ?_ ?_ hX1 hX2).mono ?_)
 ·omega
 ·omega
 ·have:=hy0.out; omega
 rintro e w2 ⟨⟨a3,a4,Q,R,c3,c4,HQ,HR,hc3,hc4,rfl,HU3,HU4⟩,hb2⟩;have hq34:Q.length<=34:=by rw [HQ.out]; exact zau (Nat.lt_of_le_of_lt (Nat.div_le_self _ _) HB1.out)
 have hr34:R.length<=34:=by rw [HR.out]; exact zau (Nat.lt_of_le_of_lt (Nat.mod_le _ _) HB1.out)
 have a0:w2.cell? ⟨w.heap.size,0,none⟩=some (.bool n1):=(hb2.cell (p:=⟨w.heap.size,0,none⟩) (by simp only; omega)).trans a0;have b0:w2.cell? ⟨w.heap.size + 1,0,none⟩=some (.bool n2):=(hb2.cell (p:=⟨w.heap.size + 1,0,none⟩) (by simp only; omega)).trans b0;have B3:=B3.mono hb2;have B4:=B4.mono hb2;have hbw2:=bu hbw hb2;have hlt4:=B4.lt;clear a1 b1 hX1 hX2;go_wp2_with fail;(with_reducible refine (za7 (!(n1 == n2)) Q a3 c3 w2 ?_ HU3.out (hii ?_)).mono ?_)
 ·omega
 ·rw [HQ.out]; exact Bi.limbs_ok _
 rintro e w3 ⟨⟨ng,ao3,n3,Y3,k3,rfl,HR3⟩,hb3⟩;have HV3:Hid (zah w3 (.agg #[.bool ng,.slice ao3 n3 Y3]) (x.tdiv y)):=hii (by
  have h:=HR3.out;have h1:Bi.val Q=x.natAbs / y.natAbs:=by rw [HQ.out,Bi.val_limbs]
  rw [h1,zg3 x y n1 n2 Hn1.out Hn2.out] at h;rcases h with ⟨_,_,h⟩ | ⟨h,_⟩
  ·exact h
  ·exact absurd (by rw [Int.natAbs_tdiv]; exact Nat.lt_of_le_of_lt (Nat.div_le_self _ _) HB1.out) h)
 have a0:w3.cell? ⟨w.heap.size,0,none⟩=some (.bool n1):=(hb3.cell (p:=⟨w.heap.size,0,none⟩) (by simp only; omega)).trans a0;have B3:=B3.mono hb3;have B4:=B4.mono hb3;have hbw3:=bu hbw2 hb3;have hlt4:=B4.lt;have hU4:=HU4.out.mono hb3;clear b0 HR3;have hlt0:w.heap.size < w3.heap.size:=by omega
 go_wp2_with fail;have X1:=Box.new w3 (.bool ng) (.slice ao3 n3 Y3) 30;have hba:=bA w3 (.cells #[.bool ng,.slice ao3 n3 Y3] 30);have hsza:(w3.alloc (.cells #[.bool ng,.slice ao3 n3 Y3] 30)).heap.size=w3.heap.size + 1:=by simp
 generalize w3.alloc (.cells #[.bool ng,.slice ao3 n3 Y3] 30)=w4 at *;have B3:=B3.mono hba;have B4:=B4.mono hba;have hbw4:=bu hbw3 hba;have hU4:=hU4.mono hba;have HV4:=hii (HV3.out.mono hba);(with_reducible refine (za7 n1 R a4 c4 w4 ?_ hU4 (hii ?_)).mono ?_)
 ·omega
 ·rw [HR.out]; exact Bi.limbs_ok _
 rintro e w5 ⟨⟨J5,ao5,n5,Y5,k5,rfl,HR5⟩,hb5⟩;have HW5:Hid (zah w5 (.agg #[.bool J5,.slice ao5 n5 Y5]) (x.tmod y)):=hii (by
  have h:=HR5.out;have h1:Bi.val R=x.natAbs % y.natAbs:=by rw [HR.out,Bi.val_limbs]
  rw [h1,zg2 x y n1 Hn1.out] at h;rcases h with ⟨_,_,h⟩ | ⟨h,_⟩
  ·exact h
  ·exact absurd (by rw [Int.natAbs_tmod]; exact Nat.lt_of_le_of_lt (Nat.mod_le _ _) HB1.out) h)
 have B3:=B3.mono hb5;have B4:=B4.mono hb5;have X1:=X1.mono hb5;have hbw5:=bu hbw4 hb5;have HV5:=hii (HV4.out.mono hb5);have hlt5:w3.heap.size < w5.heap.size:=by have:=hb5.size; omega
 clear a0 HR5 hU4 hlt0;go_upto_region 6 with fail;have X2:=Box.new w5 (.bool J5) (.slice ao5 n5 Y5) 30;have hba5:=bA w5 (.cells #[.bool J5,.slice ao5 n5 Y5] 30);have hszb:(w5.alloc (.cells #[.bool J5,.slice ao5 n5 Y5] 30)).heap.size=w5.heap.size + 1:=by simp
 generalize w5.alloc (.cells #[.bool J5,.slice ao5 n5 Y5] 30)=w6 at *;have B3:=B3.mono hba5;have B4:=B4.mono hba5;have X1:=X1.mono hba5;have hbw6:=bu hbw5 hba5;have HV6:=hii (HV5.out.mono hba5);have HW6:=hii (HW5.out.mono hba5);have hlt3:=B4.lt;obtain ⟨p0,p1,q0,q1⟩:=B3;obtain ⟨r0,r1,s0,s1⟩:=B4;obtain ⟨x0,x1,_,_⟩:=X1;obtain ⟨y0,y1,_,_⟩:=X2;have hne1:w.heap.size + 1 + 1 < w3.heap.size:=by omega
 have hne2:w.heap.size + 1 + 1 + 1 < w3.heap.size:=by omega
 clear hsza hszb hbw3 hbw4 hbw5 hba hba5;go_region;go_wp2;have r0':∀ u v,((w6.setCell ⟨w.heap.size + 1 + 1,0,none⟩ u).setCell ⟨w.heap.size + 1 + 1,1,none⟩ v).cell? ⟨w.heap.size + 1 + 1 + 1,0,none⟩=some bF_:=λ u v => by
  rw [World.cell?_setCell_other _ _ _ _ (by simp),World.cell?_setCell_other _ _ _ _ (by simp)]; exact r0
 have r1':∀ u v,((w6.setCell ⟨w.heap.size + 1 + 1,0,none⟩ u).setCell ⟨w.heap.size + 1 + 1,1,none⟩ v).cell? ⟨w.heap.size + 1 + 1 + 1,1,none⟩=some nS_:=λ u v => by
  rw [World.cell?_setCell_other _ _ _ _ (by simp),World.cell?_setCell_other _ _ _ _ (by simp)]; exact r1
 have R0:=hii r0';have R1:=hii r1';clear r0' r1';refine bodyPost_ret (v:=.tuple #[.agg #[.bool ng,.slice ao3 n3 Y3],.agg #[.bool J5,.slice ao5 n5 Y5],.int .i64 0]) (by simp [results,Tryz.results83,go_sem,p0,p1,r0,r1]) rfl ⟨⟨ng,ao3,n3,Y3,J5,ao5,n5,Y5,rfl,hii ?_,hii ?_⟩,?_⟩
 ·exact ((HV6.out.put2 p0 p1 _ _).put2 (R0.out _ _) (R1.out _ _) _ _).mono (br.drew)
 ·exact ((HW6.out.put2 p0 p1 _ _).put2 (R0.out _ _) (R1.out _ _) _ _).mono (br.drew)
 ·exact (Below.put2 (Below.put2 hbw6 (by omega) _ _) (by omega) _ _).drew
theorem zeH (a b:Vl) (x y:Int) (w:Wo) (ha:zah w a x) (hb:zah w b y) :
  CP 79 #[a,b] w λ e w' => (∃ (ng:Bool) (ao:OA) (n cap:Nat),e=.returned (.agg #[.bool ng,.slice ao n cap])/\Hid (zah w' (.agg #[.bool ng,.slice ao n cap]) ((Int.gcd x y:Nat):Int)))/\BH w w':=by
 obtain ⟨n1,ao1,L1,c1,rfl,Hn1,HL1,HB1,hc1,hl1,hU1⟩:=ha;obtain ⟨n2,ao2,L2,c2,rfl,Hn2,HL2,HB2,hc2,hl2,hU2⟩:=hb;go_enter func79,ntmps79;go_wp2_with fail;obtain ⟨wx,hwx,hsz,B1,B2,B3,hbx⟩:=zbN w (.bool n1) (.slice ao1 L1.length c1) (.bool n2) (.slice ao2 L2.length c2) bF_ nS_ 30;rw [<- hwx];clear hwx;obtain ⟨a0,a1,_,_⟩:=B1;obtain ⟨b0,b1,_,_⟩:=B2;go_quiet (fail);have hbq:=below_drewN (Below.refl wx.heap.size wx) nq;have B3:=B3.mono hbq;have hbw3:=below_drewN hbx nq;have hU3:=hU1.mono hbw3;have hU4:=hU2.mono hbw3;clear a0 a1 b0 b1 hU1 hU2 hsz hbq;generalize wx.drewN nq=w3 at *;go_wp2_with fail;go_loopg [5,6] (y.natAbs) (λ gk s7 s8 wr => ∃ (X Y:Nat) (L M:LN) (a5 a6:OA) (c5 c6:Nat),Y<=gk/\s7=.slice a5 L.length c5/\s8=.slice a6 M.length c6/\Hid (L=Bi.limbs X)/\Hid (M=Bi.limbs Y)/\Hid (Nat.gcd X Y=Int.gcd x y) /\
   Hid (X < Bi.Big/\Y < Bi.Big)/\U wr a5 L/\U wr a6 M/\BH w3 wr)
 case atStart => exact ⟨x.natAbs,y.natAbs,L1,L2,ao1,ao2,c1,c2,nl,rfl,rfl,HL1,HL2,hii rfl,hii ⟨HB1.out,HB2.out⟩,hU3,hU4,br⟩
 case round =>
  clear hU3 hU4;obtain ⟨X,Y,L,M,a5,a6,c5,c6,hY,rfl,rfl,HL,HM,HG,HXY,hUL,hUM,hbr⟩:=hrel;have hl5:L.length<=34:=by rw [HL.out]; exact zau HXY.out.1
  have hl6:M.length<=34:=by rw [HM.out]; exact zau HXY.out.2
  by_cases hM0:M=[]
  ·have hY0:Y=0:=Bi.limbs_eq_nil.1 (by rw [<- HM.out]; exact hM0);subst hM0;subst hY0;have hbr0:=bu hbw3 hbr;have F4:=B3.mono hbr;clear hUM hl6;go_wp2_with fail;(with_reducible refine (za7 false L a5 c5 wr ?_ hUL (hii ?_)).mono ?_)
   ·omega
   ·rw [HL.out]; exact Bi.limbs_ok _
   rintro e w5 ⟨⟨ng,ao3,n3,Y3,k3,rfl,HR⟩,hb5⟩;have hB:=F4.mono hb5;have hlt:=hB.lt;obtain ⟨p0,p1,q0,q1⟩:=hB;have hV:Hid (zah w5 (.agg #[.bool ng,.slice ao3 n3 Y3]) ((Int.gcd x y:Nat):Int)):=hii (by
    have e1:sgn false (Bi.val L)=((Int.gcd x y:Nat):Int):=by rw [HL.out,Bi.val_limbs,<- HG.out]; simp [sgn]
    rw [e1] at HR;rcases HR.out with ⟨_,_,h⟩ | ⟨h,_⟩
    ·exact h
    ·refine absurd ?_ h;rw [Int.natAbs_natCast,<- HG.out];exact zjk HXY.out.1 HXY.out.2)
   go_wp2;refine bodyPost_ret (v:=.agg #[.bool ng,.slice ao3 n3 Y3]) (by simp [results,Tryz.results79,go_sem,p0,p1,hlt]) rfl ⟨⟨ng,ao3,n3,Y3,rfl,hii ((hV.out.put2 p0 p1 _ _).mono (bA _ _))⟩,?_⟩;refine (Below.put2 (bu hbr0 hb5) (by omega) _ _).alloc ?_ _;have:=hb5.size; have:=hbr.size; have:=hbw3.size; simp [World.setCell]; omega
  ·have hM1:0 < M.length:=List.length_pos_iff.2 hM0;have hY1:0 < Y:=by
    rcases Nat.eq_zero_or_pos Y with h | h
    ·exact absurd (by rw [HM.out,h]; rfl) hM0
    ·exact h
   clear hM0;go_wp2_with fail;(with_reducible refine (zg6 X Y L M HL HM a5 a6 c5 c6 wr ?_ ?_ hY1 hUL hUM).mono ?_)
   ·omega
   ·omega
   rintro e w5 ⟨⟨a7,a8,Q,R,c7,c8,HQ,HR,hc7,hc8,rfl,HU7,HU8⟩,hb5⟩;have hUM5:=hUM.mono hb5;have hUR:=HU8.out;have hlt:=Nat.mod_lt X hY1;clear hUL hUM;go_wp2;go_roundg (X % Y)
   case measure => omega
   case rel => exact ⟨Y,X % Y,M,R,a6,a8,c6,c8,nl,rfl,rfl,HM,HR,hii (by rw [<- HG.out]; exact zhs X Y),hii ⟨HXY.out.2,Nat.lt_trans hlt HXY.out.2⟩,hUM5,hUR,bu hbr hb5⟩
def zoN (P:Prop) (e:Ending):Prop:=∃ r:Bool,Hid (r=true↔P)/\e=.returned (.bool r)
theorem zeg {l:LN} {x:Nat} (hx:l[l.length - 1]?=some x):∃ r,l=r ++ [x]:=by
 rcases List.eq_nil_or_concat l with h | ⟨r,y,h⟩
 ·subst h; simp at hx
 ·rw [List.concat_eq_append] at h;subst h;simp at hx;exact ⟨r,by rw [hx]⟩
theorem zhX (neg:Bool) (l:LN) (ao:OA) (cap:Nat) (w:Wo) (hm:l.length<=1000000000) (hU:U w ao l) :
  CP 77 #[.agg #[.bool neg,.slice ao l.length cap]] w λ e w' => zoN (zaE neg l) e/\BH w w':=by
 go_enter func77,ntmps77;go_wp2_with fail;have hbx:=bA w (.cells #[.bool neg,.slice ao l.length cap] 30);have B1:=Box.new w (.bool neg) (.slice ao l.length cap) 30;have hUx:=hU.mono hbx;clear hU;generalize w.alloc (.cells #[.bool neg,.slice ao l.length cap] 30)=wx at *;obtain ⟨a0,a1,_,_⟩:=B1;go_loop [3] (λ s => ∃ k:Nat,k<=l.length/\s=.int .i64 k/\Hid (Bi.Ok (l.take k))) (λ s => l.length - (intOf s).toNat)
 case atStart => exact ⟨0,Nat.zero_le _,rfl,hii (by simp [Bi.Ok])⟩
 case round =>
  obtain ⟨k,hk,rfl,HK⟩:=hrel
  by_cases hlt:k < l.length
  ·obtain ⟨x,hx⟩:=zaj hlt;obtain ⟨b,off,rfl,hc⟩:=hUx.at' hx;have HX:=hii hx;clear hx hUx
   by_cases hs:(1000000000:Int)<=(x:Int)
   ·have hno:¬ zaE neg l:=by
     intro h;unfold zaE at h;rw [if_neg (by rintro rfl; simp at hlt)] at h;have:=h.1.at' HX.out;omega
    have HNO:=hii hno;clear hno;go_wp2;go_ret;exact ⟨⟨false,hii (by simp [HNO.out]),rfl⟩,hbx⟩
   ·go_wp2;go_round
    case rel =>
     refine ⟨k + 1,by omega,by go_num,hii ?_⟩;have h1:l[k]'hlt=x:=(List.getElem?_eq_some_iff.1 HX.out).2;rw [List.take_succ_eq_append_getElem hlt,h1];exact HK.out.snoc (by omega)
    case measure => simp [intOf]; omega
  ·obtain rfl:k=l.length:=by omega
   have HO:Hid (Bi.Ok l):=hii (by have:=HK.out; rwa [List.take_length] at this);clear HK
   by_cases hl0:l=[]
   ·subst hl0;clear hUx;go_wp2;go_ret;exact ⟨⟨_,hii (by simp [zaE]),rfl⟩,hbx⟩
   ·have hl1:0 < l.length:=List.length_pos_iff.2 hl0;have hlz:((l.length:Int) == 0)=false:=by rw [beq_eq_false_iff_ne]; omega
    obtain ⟨x,hx⟩:=zaj (l:=l) (k:=l.length - 1) (by omega);obtain ⟨b,off,rfl,hc⟩:=hUx.at' hx;have HV:Hid (zaE neg l↔Bi.Ok l/\x ≠ 0/\Bi.val l < Bi.Big):=hii (by
     obtain ⟨r,rfl⟩:=zeg hx;exact zd1)
    have HS:=hii (zeg hx);clear hx hl0
    by_cases hx0:x=0
    ·subst hx0;clear hUx;go_wp2;go_ret;exact ⟨⟨false,hii (by rw [HV.out]; simp),rfl⟩,hbx⟩
    ·have hxb:((x:Int) != 0)=true:=by rw [bne_iff_ne]; omega
     have HL:Hid (l=Bi.limbs (Bi.val l)):=hii (by
      obtain ⟨r,hr⟩:=HS.out;have ho:=HO.out;rw [hr] at ho |-;exact zeo ho hx0)
     go_wp2_with fail;(with_reducible refine (zdy _ l HL _ _ _ ?_ hUx).mono ?_)
     ·omega
     rintro e w2 ⟨⟨d,HD,hd,rfl⟩,rfl⟩;clear hUx;go_wp2;go_ret;refine ⟨⟨_,hii ?_,rfl⟩,hbx⟩;rw [HV.out,<- Bi.dlen_le,<- HD.out];simp [HO.out,hx0];omega
end Go.Proofs.YtfgffkmddanjjaaGreatDoor
namespace Bi
open Go
end Bi
namespace Go.Proofs.YtfgffkmddanjjaaGreatDoor
open _root_.Go.Proofs.Tryz
open Go.RowKit
theorem zmk (a b:Vl) (x y:Int) (w:Wo) (ha:zah w a x) (hb:zah w b y) :
  CP 35 #[a,b] w λ e w' => e=.returned (.bool (decide (x=y)))/\BH w w':=by
 obtain ⟨n1,ao1,L1,c1,rfl,Hn1,HL1,HB1,hc1,hl1,hU1⟩:=ha;obtain ⟨n2,ao2,L2,c2,rfl,Hn2,HL2,HB2,hc2,hl2,hU2⟩:=hb;refine (zjn n1 n2 L1 L2 ao1 ao2 c1 c2 w (by omega) (by omega) hU1 hU2).mono ?_;rintro e w' ⟨⟨r,HR,rfl⟩,hb⟩;refine ⟨zdj ?_,hb⟩;have h:=HR.out;have e1:=zby x n1 Hn1.out;have e2:=zby y n2 Hn2.out
 by_cases hxy:x=y
 ·subst hxy;rw [h.2 ⟨by rw [Hn1.out,Hn2.out],by rw [HL1.out,HL2.out]⟩]; simp
 ·cases r with
  | false => simp [hxy]
  | true =>
   obtain ⟨h1,h2⟩:=h.1 rfl;rw [HL1.out,HL2.out] at h2;have:=Bi.limbs_inj h2;rw [<- e1,<- e2,h1,this] at hxy;exact absurd rfl hxy
theorem zjH {k:Nat} (h:k<=9223372036854775808):k < Bi.Big:=zdw h
def zj5 (w:Wo) (v:Vl):Prop :=
 ∃ (neg:Bool) (ao:OA) (l:LN) (cap:Nat),v=.agg #[.bool neg,.slice ao l.length cap]/\l.length<=9223372036854775807/\U w ao l/\Hid (∀ x∈l,x < 4294967296)
theorem zj5.mono {w w':Wo} {v:Vl} (h:zj5 w v) (hb:BH w w'):zj5 w' v:=by
 obtain ⟨neg,ao,l,cap,e,h1,h2,h3⟩:=h;exact ⟨neg,ao,l,cap,e,h1,h2.mono hb,h3⟩
theorem zah.parts {w:Wo} {v:Vl} {z:Int} (h:zah w v z):∃ (ng:Bool) (ao:OA) (n cap:Nat),v=.agg #[.bool ng,.slice ao n cap]:=by
 obtain ⟨neg,ao,L,cap,e,_⟩:=h;exact ⟨neg,ao,_,cap,e⟩
theorem zbX (v:Vl) (z:Int) (w:Wo) (h:zah w v z) (hE:Env w) :
  CP 121 #[v] w λ e w' => e=.returned (.bool true)/\BH w w':=by
 obtain ⟨n1,ao1,L1,c1,rfl,Hn1,HL1,HB1,hc1,hl1,hU1⟩:=h;refine (zb3 n1 L1 ao1 c1 w (by omega) hU1 hE).mono ?_;rintro e w' ⟨⟨r,HR,rfl⟩,hb⟩;exact ⟨by rw [HR.out.2 (zaz z n1 L1 Hn1.out HL1.out HB1.out)],hb⟩
theorem zj2.some {w:Wo} {z:Int} {v:Vl} {k:Int} (h:zj2 w z v k):∃ y,zah w v y/\(y=if z.natAbs < Bi.Big then z else 0)/\k=if z.natAbs < Bi.Big then 0 else 3:=by
 rcases h with ⟨h1,h2,h3⟩ | ⟨h1,h2,h3⟩
 ·exact ⟨z,h3,by rw [if_pos h1],by rw [if_pos h1]; exact h2⟩
 ·exact ⟨0,by rw [h3]; exact zah.zero _,by rw [if_neg h1],by rw [if_neg h1]; exact h2⟩
theorem Box.set2 {w:Wo} {n:Nat} {x y:Vl} (h:Box w n x y) (u v:Vl):Box ((w.setCell (aD_ n 0) u).setCell (aD_ n 1) v) n u v:=by
 have h0:=h.c0;have h1:=h.c1;have h2:=h.f0;have h3:=h.f1;exact ⟨by simp [h0,go_sem],by simp [h1,go_sem],by simp [h2,go_sem],by simp [h3,go_sem]⟩
theorem zah.small {w:Wo} {v:Vl} {z:Int} (h:zah w v z):z.natAbs < Bi.Big:=by
 obtain ⟨_,_,_,_,_,_,_,hB,_⟩:=h;exact hB.out
theorem zj2.fits {w:Wo} {z:Int} {v:Vl} {k:Int} (h:zj2 w z v k) (hz:z.natAbs < Bi.Big):k=0/\zah w v z:=by
 rcases h with ⟨_,h2,h3⟩ | ⟨h1,_⟩
 ·exact ⟨h2,h3⟩
 ·exact absurd hz h1
theorem zjj {x y:Int} (hx:x.natAbs < Bi.Big) (hy:y.natAbs < Bi.Big):(((Int.gcd x y:Nat):Int)).natAbs < Bi.Big:=by
 rw [Int.natAbs_natCast];exact zjk hx hy
theorem zj8 (a b:Vl) (x y c:Int) (w:Wo) (hc:Hid (zdb x y=c)) (ha:zah w a x) (hb:zah w b y) (hE:Env w) :
  CP 97 #[a,b] w λ e w' => e=.returned (.int .i64 c)/\BH w w':=by
 rw [<- hc.out]; exact zmU a b x y w ha hb hE
theorem zl0 (a b:Vl) (x y c:Int) (w:Wo) (hc:Hid (zdb x y=c)) (ha:zah w a x) (hb:zah w b y) :
  CP 54 #[a,b] w λ e w' => e=.returned (.int .i64 c)/\BH w w':=by
 rw [<- hc.out]; exact zky a b x y w ha hb
end Go.Proofs.YtfgffkmddanjjaaGreatDoor
namespace Go
open Go.RowKit
section
variable {P : Program} {ops : Array Oper} {Q : Exit → Act → Wo → Prop} {md : Region.Mode}
def zdp (L:Nat->Prop):LN->Prop
 | [] => True
 | d :: r => L d/\zdp L r
theorem zdp.mem {L:Nat->Prop}:∀ {l:LN},(∀ d∈l,L d)->zdp L l
 | [],_ => trivial
 | d :: r,h => ⟨h d (by simp),zdp.mem λ x hx => h x (by simp [hx])⟩
def zaM (md:Region.Mode) (o:Oper):LN:=o.after.toList.filterMap λ e => if Region.binds md e then some e.on else none
def ziG (md:Region.Mode) (ops:Array Oper):Bool:=(List.range ops.size).all λ i => ((ops[i]?).map λ o => (zaM md o).all (λ d => decide (d < i))).getD true
def zaC (p:Nat->Oper->Prop):Nat->List Oper->Prop
 | _,[] => True
 | k,o :: r => p k o/\zaC p (k + 1) r
theorem zaC.get {p:Nat->Oper->Prop}:∀ {l:List Oper} {k i:Nat} {o:Oper},zaC p k l->l[i]?=some o->p (k + i) o
 | [],_,_,_,_,h => by simp at h
 | x :: r,k,0,o,h,h' => by simp at h'; subst h'; exact h.1
 | x :: r,k,i + 1,o,h,h' => by
  have:=zaC.get (k:=k + 1) (i:=i) h.2 (by simpa using h');rw [show k + (i + 1)=k + 1 + i by omega]; exact this
def On (listed:Array Bool) (i:Nat):Prop:=listed.getD i false=true
theorem zhm:∀ (l:List Bool) (i:Nat),l[i]?=some false->((l.set i true).filter (λ b => !b)).length + 1=(l.filter (λ b => !b)).length
 | [],_,h => by simp at h
 | x :: r,0,h => by simp at h; subst h; simp
 | x :: r,i + 1,h => by
  have:=zhm r i (by simpa using h)
  cases x <;> simp <;> omega
theorem zfG:∀ (l:List Bool),(l.filter (λ b => !b)).length=0->∀ i,i < l.length->l[i]?=some true
 | [],_,i,h => by simp at h
 | x :: r,h,i,hi => by
  cases x
  ·simp at h
  ·cases i with
   | zero => rfl
   | succ i => simpa using zfG r (by simpa using h) i (by simpa using hi)
theorem zfC {o:Oper} {d:Nat}:d∈zaM md o↔∃ e∈o.after,Region.binds md e=true/\e.on=d:=by
 unfold zaM;simp only [List.mem_filterMap,Array.mem_toList_iff]
 constructor
 ·rintro ⟨e,he,h⟩
  cases hb:Region.binds md e <;> simp [hb] at h
  exact ⟨e,he,hb,h⟩
 ·rintro ⟨e,he,hb,h⟩;exact ⟨e,he,by simp [hb,h]⟩
theorem zbt (ht:ziG md ops=true) {i:Nat} {o:Oper} (ho:ops[i]?=some o) {d:Nat} (hd:d∈zaM md o):d < i:=by
 have hlt:i < ops.size:=(Array.getElem?_eq_some_iff.1 ho).1;have:=(List.all_eq_true.1 ht) i (by simpa using hlt);rw [ho] at this;simp at this;exact this d hd
theorem zd0 {I:(Nat->Prop)->Act->Wo->Prop} (ht:ziG md ops=true)
  (hs:zaC (λ i o => ∀ L a w,zdp L (zaM md o)->¬ L i->I L a w->wpOp P ops Q i (I (λ j => j=i\/L j)) a w) 0 ops.toList)
  (he:∀ L a w,(∀ i,i < ops.size->L i)->I L a w->Q .normal a w) :
  ∀ (fuel:Nat) (listed:Array Bool) (a:Act) (w:Wo),listed.size=ops.size->(listed.toList.filter (λ b => !b)).length<=fuel->I (On listed) a w->wpAny P md ops Q fuel listed a w:=by
 have all:∀ (listed:Array Bool),listed.size=ops.size->Region.ready md ops listed=[]->∀ i,i < ops.size->On listed i:=by
  intro listed hsz hr i
  induction i using Nat.strongRecOn with
  | ind i ih =>
   intro hi
   cases hb:listed.getD i false with
   | true => exact hb
   | false =>
    exfalso
    have:i∈Region.ready md ops listed:=by
     rw [mem_ready];refine ⟨?_,ops[i],by simp [hi],?_⟩
     ·have:i < listed.size:=by omega
      simp [this] at hb |-; exact hb
     ·intro e he hbe;have hlt:=zbt (md:=md) ht (i:=i) (o:=ops[i]) (by simp [hi]) (zfC.2 ⟨e,he,hbe,rfl⟩);exact ih e.on hlt (by omega)
    rw [hr] at this
    cases this
 intro fuel
 induction fuel with
 | zero =>
  intro listed a w hsz hl h;have hall:∀ i,i < ops.size->On listed i:=by
   intro i hi;have:=zfG listed.toList (by omega) i (by simpa [hsz] using hi);unfold On;have hi':i < listed.size:=by omega
   simp [hi'] at this |-;exact this
  refine ⟨?_,he _ a w hall h⟩
  cases hr:Region.ready md ops listed with
  | nil => rfl
  | cons x r =>
   have hx:x∈Region.ready md ops listed:=by rw [hr]; simp
   rw [mem_ready] at hx;obtain ⟨h0,o,ho,_⟩:=hx;have hlt:x < ops.size:=(Array.getElem?_eq_some_iff.1 ho).1;have:=hall x hlt;unfold On at this;have hi':x < listed.size:=by omega
   simp [hi'] at this h0;rw [this] at h0; cases h0
 | succ fuel ih =>
  intro listed a w hsz hl h;refine ⟨λ hr => he _ a w (all listed hsz hr) h,λ i hi => ?_⟩;rw [mem_ready] at hi;obtain ⟨h0,o,ho,hw⟩:=hi;have hlt:i < ops.size:=(Array.getElem?_eq_some_iff.1 ho).1;have hi':i < listed.size:=by omega
  have hget:listed.toList[i]?=some false:=by
   simp [hi'] at h0 |-; exact h0
  have h1:=zaC.get (i:=i) (o:=o) hs (by simpa using ho);rw [Nat.zero_add] at h1;have h2:=h1 (On listed) a w (zdp.mem λ d hd => by
   obtain ⟨e,he1,hb,rfl⟩:=zfC.1 hd;exact hw e he1 hb) (by unfold On; simp [hi'] at h0 |-; exact h0) h
  refine wpOp_mono (λ a' w' h3 => ih _ a' w' (by simpa using hsz) ?_ ?_) h2
  ·have:=zhm listed.toList i hget;rw [Array.toList_setIfInBounds];omega
  ·have:(λ j => j=i\/On listed j)=On (listed.setIfInBounds i true):=by
    funext j
    apply propext
    unfold On
    by_cases hji:j=i
    ·subst hji; simp [hi']
    ·rw [getD_set_ne false (Ne.symm hji)]; simp [hji]
   rw [<- this]; exact h3
def ovr (t:Array Vl) (T:Nat->Vl):LN->Array Vl
 | [] => t
 | d :: r => (ovr t T r).setIfInBounds d (T d)
theorem sA:(∀ (t:Array Vl) (T:Nat->Vl),ovr t T []=t)/\(∀ (t:Array Vl) (T:Nat->Vl) (d:Nat) (r:LN),ovr t T (d :: r)=(ovr t T r).setIfInBounds d (T d))/\(∀ (a:Act) (d:Nat) (v:Vl),a.put (some d) v={ a with tmps:=a.tmps.setIfInBounds d v })/\(∀ (a:Act) (v:Vl),a.put none v=a)/\(∀ (l:List Vl) (i:Nat) (a:Vl),l.toArray.setIfInBounds i a=(l.set i a).toArray)/\(∀ (x:Vl) (xs:List Vl) (a:Vl),(x :: xs).set 0 a=a :: xs)/\∀ (x:Vl) (xs:List Vl) (i:Nat) (a:Vl),(x :: xs).set (i + 1) a=x :: xs.set i a :=
 ⟨λ _ _ => rfl,λ _ _ _ _ => rfl,λ _ _ _ => rfl,λ _ _ => rfl,λ l i a => List.setIfInBounds_toArray l i a,λ _ _ _ => rfl,λ _ _ _ _ => rfl⟩
def upd (T:Nat->Vl) (d:Nat) (v:Vl):Nat->Vl:=λ k => if k=d then v else T k
def zbB (T:Nat->Vl) (d:Option Nat) (v:Vl):Nat->Vl :=
 match d with
 | none => T
 | some d => upd T d v
theorem zfz (t:Array Vl) (T:Nat->Vl) (d:Nat) (v:Vl):∀ (l:LN),d ∉ l->ovr t (upd T d v) l=ovr t T l
 | [],_ => rfl
 | x :: r,h => by
  simp only [ovr];rw [zfz t T d v r (λ h' => h (by simp [h']))];have:x ≠ d:=λ e => h (by simp [e])
  simp [upd,this]
theorem zeK (t:Array Vl) (T:Nat->Vl) (d:Nat) (v:Vl):∀ (l:LN),d∈l->(ovr t T l).setIfInBounds d v=ovr t (upd T d v) l
 | [],h => by simp at h
 | x :: r,h => by
  simp only [ovr]
  by_cases hx:x=d
  ·subst hx
   by_cases hr:x∈r
   ·rw [<- zeK t T x v r hr]; simp [upd]
   ·rw [zfz t T x v r hr]; simp [upd]
  ·have hr:d∈r:=by simpa [Ne.symm hx] using h
   rw [Array.setIfInBounds_comm _ _ hx,zeK t T d v r hr];simp [upd,hx]
theorem zeL (t:Array Vl):∀ (l:LN),ovr t (λ k => t.getD k undef) l=t
 | [] => rfl
 | x :: r => by
  simp only [ovr];rw [zeL t r]
  apply Array.ext
  ·simp
  ·intro i h1 h2;rw [Array.getElem_setIfInBounds]
   ·by_cases hx:x=i
    ·subst hx; simp [h2]
    ·simp [hx]
   ·exact h2
def zmn (ops:Array Oper):LN:=ops.toList.filterMap (·.dst)
theorem zck {id:Nat} {a:Act} {w:Wo} (J:(Nat->Prop)->(Nat->Vl)->Wo->Prop) (ds:LN)
  (hm:P.follows .mixedOrders=true) (ht:ziG .any ops=true) (hd:zmn ops=ds)
  (h0:∀ T,J (λ _ => False) T { w with drawn:=w.drawn + 1 })
  (hs:zaC (λ i o => ∀ (L:Nat->Prop) (T:Nat->Vl) (w:Wo),zdp L (zaM .any o)->¬ L i->J L T w ->
   ∀ K:Act->Wo->Prop,(∀ v w',J (λ j => j=i\/L j) (zbB T o.dst v) w'->K (({ a with tmps:=ovr a.tmps T ds }:Act).put o.dst v) w') ->
    wpOp P ops Q i K { a with tmps:=ovr a.tmps T ds } w) 0 ops.toList)
  (he:∀ T w,J (λ i => i < ops.size) T w->Q .normal { a with tmps:=ovr a.tmps T ds } w)
  (hmono:∀ L T w,(∀ i,i < ops.size->L i)->J L T w->J (λ i => i < ops.size) T w):(Code.region id ops true).wp P Q a w:=by
 refine wp_region_any hm (zd0 (I:=λ L a' w' => ∃ T,a'={ a with tmps:=ovr a.tmps T ds }/\J L T w') ht ?_ ?_ _ _ _ _ (by simp) (by simp) ?_)
 ·have key:∀ (l:List Oper) (k:Nat),(∀ o∈l,∀ d,o.dst=some d->d∈ds) ->
    zaC (λ i o => ∀ (L:Nat->Prop) (T:Nat->Vl) (w:Wo),zdp L (zaM .any o)->¬ L i->J L T w ->
     ∀ K:Act->Wo->Prop,(∀ v w',J (λ j => j=i\/L j) (zbB T o.dst v) w'->K (({ a with tmps:=ovr a.tmps T ds }:Act).put o.dst v) w') ->
      wpOp P ops Q i K { a with tmps:=ovr a.tmps T ds } w) k l ->
    zaC (λ i o => ∀ L a' w,zdp L (zaM .any o)->¬ L i->(∃ T,a'={ a with tmps:=ovr a.tmps T ds }/\J L T w) ->
     wpOp P ops Q i (λ a' w' => ∃ T,a'={ a with tmps:=ovr a.tmps T ds }/\J (λ j => j=i\/L j) T w') a' w) k l:=by
   intro l
   induction l with
   | nil => intro k _ _; trivial
   | cons o r ih =>
    intro k hin h;refine ⟨?_,ih (k + 1) (λ o ho => hin o (by simp [ho])) h.2⟩;rintro L a' w hL hn ⟨T,rfl,hJ⟩;refine h.1 L T w hL hn hJ _ (λ v w' hJ' => ⟨zbB T o.dst v,?_,hJ'⟩)
    cases hdo:o.dst with
    | none => rfl
    | some d =>
     have:=hin o (by simp) d hdo;simp only [Act.put,zbB];rw [zeK _ _ _ _ _ this]
  refine key ops.toList 0 ?_ hs;intro o ho d hdo;rw [<- hd];exact List.mem_filterMap.2 ⟨o,ho,hdo⟩
 ·rintro L a' w hL ⟨T,rfl,hJ⟩;exact he T w (hmono L T w hL hJ)
 ·refine ⟨λ k => a.tmps.getD k undef,by rw [zeL],?_⟩;have:On (Array.replicate ops.size false)=λ _ => False:=by
   funext i
   unfold On
   by_cases h:i < ops.size <;> simp [h]
  rw [this];exact h0 _
theorem wO {i:Nat} {o:Oper} {K:Act->Wo->Prop} {a:Act} {w:Wo} (hi:ops[i]?=some o) (h:o.wp P a w K Q) (hw:Region.wanted o (yielded ops a.tmps)=true:=by rfl):wpOp P ops Q i K a w:=by
 unfold Go.wpOp;simp only [hi,hw,if_true];exact .inl h
theorem zax {i:Nat} {o:Oper} {K:Act->Wo->Prop} {a:Act} {w:Wo} (hi:ops[i]?=some o) (hw:Region.wanted o (yielded ops a.tmps)=false) (h:K (a.put o.dst undef) w):wpOp P ops Q i K a w:=by
 unfold Go.wpOp;simp only [hi,hw];exact h
def zcS (Fs:List (Wo->Vl->Prop)) (ds:LN) (T:Nat->Vl) (W:Wo):LN->Prop
 | [] => True
 | k :: r => (Fs.getD k λ _ _ => True) W (T (ds.getD k 0))/\zcS Fs ds T W r
theorem zcS.mem {Fs:List (Wo->Vl->Prop)} {ds:LN} {T:Nat->Vl} {W:Wo}:∀ {l:LN},(∀ k∈l,(Fs.getD k λ _ _ => True) W (T (ds.getD k 0)))->zcS Fs ds T W l
 | [],_ => trivial
 | k :: r,h => ⟨h k (by simp),zcS.mem λ x hx => h x (by simp [hx])⟩
theorem zcS.of {Fs:List (Wo->Vl->Prop)} {ds:LN} {T:Nat->Vl} {W:Wo}:∀ {l:LN} (k:Nat),zcS Fs ds T W l->k∈l->(Fs.getD k λ _ _ => True) W (T (ds.getD k 0))
 | [],_,_,h => by simp at h
 | x :: r,k,h,hk => by
  rcases List.mem_cons.1 hk with rfl | hk
  ·exact h.1
  ·exact zcS.of k h.2 hk
theorem zcS.at {Fs:List (Wo->Vl->Prop)} {ds:LN} {T:Nat->Vl} {W:Wo} {n:Nat} (k:Nat) (h:zcS Fs ds T W (List.range n)) (hk:k < n):(Fs.getD k λ _ _ => True) W (T (ds.getD k 0)) :=
 zcS.of k h (by simpa using hk)
def zik (F:Wo->Vl->Prop):Prop:=∀ (W W':Wo) (v:Vl),F W v->BH W W'->F W' v
theorem sV (u:Vl):zik (λ _ v => v=u):=λ _ _ _ h _ => h
def zmW:List (Wo->Vl->Prop)->Prop
 | [] => True
 | F :: r => zik F/\zmW r
theorem zmW.get:∀ {l:List (Wo->Vl->Prop)} (k:Nat),zmW l->zik (l.getD k λ _ _ => True)
 | [],_,_ => λ _ _ _ _ _ => trivial
 | _ :: _,0,h => h.1
 | _ :: r,k + 1,h => zmW.get (l:=r) k h.2
theorem zh7:∀ {ds:LN} (_:ds.Nodup) {i k:Nat} (_:i < ds.length) (_:k < ds.length) (_:ds.getD i 0=ds.getD k 0),i=k:=by
 intro ds hnd i k hi hk h;rw [List.getD_eq_getElem?_getD,List.getD_eq_getElem?_getD,gE hi,gE hk] at h;simp only [Option.getD_some] at h;exact (List.getElem_inj hnd).1 h
theorem zae {id:Nat} {a:Act} {w wx:Wo} (Fs:List (Wo->Vl->Prop)) (ds:LN)

  (hw:BH wx w) (hS:zmW Fs)
  (hs:zaC (λ i o => ∀ (T:Nat->Vl) (W:Wo),BH wx W->zcS Fs ds T W (zaM .any o) ->
   ∀ K:Act->Wo->Prop,(∀ v W',BH W W'->(Fs.getD i λ _ _ => True) W' v->K (({ a with tmps:=ovr a.tmps T ds }:Act).put o.dst v) W') ->
    wpOp P ops Q i K { a with tmps:=ovr a.tmps T ds } W) 0 ops.toList)
  (he:∀ T W,BH wx W->zcS Fs ds T W (List.range ops.size)->Q .normal { a with tmps:=ovr a.tmps T ds } W)
  (hm:P.follows .mixedOrders=true:=by kernel_rfl) (ht:ziG .any ops=true:=by kernel_rfl) (hd:ops.toList.map (·.dst)=ds.map some:=by kernel_rfl) (hnd:ds.Nodup:=by exact of_decide_eq_true (by kernel_rfl)):(Code.region id ops true).wp P Q a w:=by
 have hlen:ds.length=ops.size:=by
  have:=congrArg List.length hd;simp at this;exact this.symm
 have hdst:∀ (i:Nat) (o:Oper),ops[i]?=some o->i < ds.length/\o.dst=some (ds.getD i 0):=by
  intro i o ho;have hi:i < ops.size:=(Array.getElem?_eq_some_iff.1 ho).1;refine ⟨by omega,?_⟩;have h1:(ops.toList.map (·.dst))[i]?=some o.dst:=by simp [ho]
  rw [hd,List.getElem?_map,gE (by omega)] at h1;simp only [Option.map_some,Option.some.injEq] at h1;rw [<- h1,List.getD_eq_getElem?_getD,gE (by omega)]
  rfl
 refine zck (λ L T W => BH wx W/\∀ k,k < ops.size->L k->(Fs.getD k λ _ _ => True) W (T (ds.getD k 0))) ds hm ht ?_ (λ T => ⟨hw.drew,λ k _ h => h.elim⟩) ?_ ?_ ?_
 ·unfold zmn;have:∀ (l:List Oper) (ds:LN),l.map (·.dst)=ds.map some->l.filterMap (·.dst)=ds:=by
   intro l
   induction l with
   | nil => intro ds h; cases ds <;> simp_all
   | cons o r ih =>
    intro ds h
    cases ds with
    | nil => simp at h
    | cons d ds =>
     simp only [List.map_cons,List.cons.injEq] at h;rw [List.filterMap_cons_some h.1,ih ds h.2]
  exact this _ _ hd
 ·have key:∀ (l:List Oper) (k:Nat),(∀ j o,l[j]?=some o->ops[k + j]?=some o) ->
    zaC (λ i o => ∀ (T:Nat->Vl) (W:Wo),BH wx W->zcS Fs ds T W (zaM .any o) ->
     ∀ K:Act->Wo->Prop,(∀ v W',BH W W'->(Fs.getD i λ _ _ => True) W' v->K (({ a with tmps:=ovr a.tmps T ds }:Act).put o.dst v) W') ->
      wpOp P ops Q i K { a with tmps:=ovr a.tmps T ds } W) k l ->
    zaC (λ i o => ∀ (L:Nat->Prop) (T:Nat->Vl) (w:Wo),zdp L (zaM .any o)->¬ L i->(BH wx w/\∀ k,k < ops.size->L k->(Fs.getD k λ _ _ => True) w (T (ds.getD k 0))) ->
     ∀ K:Act->Wo->Prop,(∀ v w',(BH wx w'/\∀ k,k < ops.size->(k=i\/L k)->(Fs.getD k λ _ _ => True) w' (zbB T o.dst v (ds.getD k 0)))->K (({ a with tmps:=ovr a.tmps T ds }:Act).put o.dst v) w') ->
      wpOp P ops Q i K { a with tmps:=ovr a.tmps T ds } w) k l:=by
   intro l
   induction l with
   | nil => intro k _ _; trivial
   | cons o r ih =>
    intro k hin h;refine ⟨?_,ih (k + 1) (λ j o' ho => by have:=hin (j + 1) o' (by simpa using ho); rw [show k + 1 + j=k + (j + 1) by omega]; exact this) h.2⟩;rintro L T W hL hn ⟨hb,hJ⟩ K hK;have hko:ops[k]?=some o:=by simpa using hin 0 o rfl
    obtain ⟨hkl,hkd⟩:=hdst k o hko;have hall:∀ d,d∈zaM .any o->L d:=by
     have:∀ l:LN,zdp L l->∀ d,d∈l->L d:=by
      intro l
      induction l with
      | nil => intro _ d hd; simp at hd
      | cons x r ih =>
       intro h d hd;rcases List.mem_cons.1 hd with rfl | hd
       ·exact h.1
       ·exact ih h.2 d hd
     exact this _ hL
    refine h.1 T W hb (zcS.mem λ d hdw => hJ d (Nat.lt_trans (zbt ht hko hdw) (by omega)) (hall d hdw)) K λ v W' hb' hv => hK v W' ⟨hb.trans (hb'.mono hb.size),?_⟩
    rintro j hj (rfl | hLj)
    ·rw [hkd];simp only [zbB,upd,if_true];exact hv
    ·have hne:ds.getD j 0 ≠ ds.getD k 0:=λ e => by
      have:=zh7 hnd (by omega) hkl e;subst this;exact hn hLj
     rw [hkd];simp only [zbB,upd,if_neg hne];exact hS.get j _ _ _ (hJ j hj hLj) hb'
  exact key ops.toList 0 (λ j o ho => by simpa using ho) hs
 ·rintro T W ⟨hb,hJ⟩;exact he T W hb (zcS.mem λ k hk => hJ k (by simpa using hk) (by simpa using hk))
 ·rintro L T W hL ⟨hb,hJ⟩;exact ⟨hb,λ k hk _ => hJ k hk (hL k hk)⟩
end
end Go
namespace Go.Proofs.YtfgffkmddanjjaaGreatDoor
open _root_.Go.Proofs.Tryz
open Go.RowKit
structure zpk (R:Wo->Vl->Prop):Prop where
 mono:∀ {W W':Wo} {v:Vl},R W v->BH W W'->R W' v
 put:∀ {W:Wo} {n:Nat} {v x y:Vl},R W v->Box W n bF_ nS_->R ((W.setCell (aD_ n 0) x).setCell (aD_ n 1) y) v
def znZ (W:Wo) (base:Nat) (R:Wo->Vl->Prop) (st:Prop) (p:Vl):Prop :=
 ∃ b,p=pT b 0/\base<=b/\b < W.heap.size/\(st->∃ x y,Box W b x y/\R W (.agg #[x,y]))/\(¬ st->Box W b bF_ nS_)
theorem znZ.mono {W W':Wo} {base:Nat} {R:Wo->Vl->Prop} {st:Prop} {p:Vl} (hR:zpk R) (h:znZ W base R st p) (hb:BH W W'):znZ W' base R st p:=by
 obtain ⟨b,e,h1,h2,h3,h4⟩:=h;exact ⟨b,e,h1,Nat.lt_of_lt_of_le h2 hb.size,λ s => by obtain ⟨x,y,B,hr⟩:=h3 s; exact ⟨x,y,B.mono hb,hR.mono hr hb⟩,λ s => (h4 s).mono hb⟩
end Go.Proofs.YtfgffkmddanjjaaGreatDoor
namespace Bi
open Go.Lib (decDigits nDigits)
def zgw:Nat->Nat->List UInt8
 | 0,_ => []
 | k + 1,x => zgw k (x / 10) ++ [UInt8.ofNat (48 + x % 10)]
theorem zfP:∀ (k n x:Nat),0 < n->x < 10 ^ k->decDigits (n * 10 ^ k + x)=decDigits n ++ zgw k x
 | 0,n,x,_,h => by
  have:x=0:=by simpa using h
  subst this;simp [zgw]
 | k + 1,n,x,hn,h => by
  have h1:10<=n * 10 ^ (k + 1):=by
   have h2:1<=10 ^ k:=Nat.one_le_pow _ _ (by decide);have h3:1 * 10<=n * 10 ^ (k + 1):=Nat.mul_le_mul hn (by rw [Nat.pow_succ]; omega);omega
  rw [decDigits,dif_neg (by omega)];have e1:(n * 10 ^ (k + 1) + x) / 10=n * 10 ^ k + x / 10:=by
   rw [Nat.pow_succ,<- Nat.mul_assoc];omega
  have e2:(n * 10 ^ (k + 1) + x) % 10=x % 10:=by
   rw [Nat.pow_succ,<- Nat.mul_assoc];omega
  rw [e1,e2,zfP k n (x / 10) hn (by rw [Nat.pow_succ] at h; omega),List.append_assoc]
  rfl
theorem zeh:∀ (k:Nat),zgw k 0=List.replicate k 48
 | 0 => rfl
 | k + 1 => by
  rw [zgw,Nat.zero_div,zeh k,List.replicate_succ']
  rfl
theorem zfI:∀ (k x:Nat),1<=k->x < 10 ^ k->List.replicate (k - nDigits x) 48 ++ decDigits x=zgw k x
 | 0,_,h,_ => by omega
 | k + 1,x,_,h => by
  by_cases hx:x < 10
  ·rw [Go.Lib.nDigits_small hx,Go.Lib.decDigits_one hx,Nat.add_sub_cancel,zgw,Nat.div_eq_of_lt hx,zeh,Nat.mod_eq_of_lt hx]
  ·have hk:1<=k:=by
    apply Nat.le_of_not_lt; intro h0
    have:k=0:=by omega
    subst this;simp at h; omega
   rw [Go.Lib.nDigits_big hx,decDigits,dif_neg hx,Nat.add_sub_add_right,<- List.append_assoc,zfI k (x / 10) hk (by rw [Nat.pow_succ] at h; omega)]
   rfl
theorem zkW {n x:Nat} (hn:0 < n) (hx:x < 1000000000):decDigits (x + 1000000000 * n)=decDigits n ++ (List.replicate (9 - nDigits x) 48 ++ decDigits x):=by
 rw [zfI 9 x (by omega) (by simpa using hx),<- zfP 9 n x hn (by simpa using hx)]
 congr 1
 omega
theorem zfM {L:LN} {i x:Nat} (hi:i < L.length) (hx:L.getD i 0=x):val (L.drop i)=x + 1000000000 * val (L.drop (i + 1)):=by
 rw [List.drop_eq_getElem_cons hi];rw [List.getD_eq_getElem?_getD,gE hi] at hx;simp only [Option.getD_some] at hx;rw [hx];simp [val]
theorem zkT {n:Nat} {L:LN} (h:L=limbs n) {j:Nat} (hj:j < L.length):0 < val (L.drop j):=by
 rcases List.eq_nil_or_concat L with h0 | ⟨r,x,h0⟩
 ·subst h0; simp at hj
 ·rw [List.concat_eq_append] at h0;subst h0;obtain ⟨_,hx,_⟩:=dlen_limbs h;rw [List.drop_append_of_le_length (by simp at hj; omega),val_snoc];have:0 < 1000000000 ^ (r.drop j).length * x:=Nat.mul_pos (Nat.pow_pos (by decide)) (by omega);omega
def outT (L:LN) (j:Nat):List UInt8:=if j < L.length then decDigits (val (L.drop j)) else []
theorem outT_len {L:LN} (h:val L < Big) (j:Nat):(outT L j).length<=300:=by
 unfold outT
 split
 ·rw [Go.Lib.decDigits_length];have h1:val (L.drop j)<=val L:=by
   clear h
   induction j generalizing L with
   | zero => simp
   | succ i ih =>
    cases L with
    | nil => simp
    | cons x r =>
     have:=ih (L:=r) (by rename_i h; simpa using h);simp only [List.drop_succ_cons,val];omega
  by_cases h0:val (L.drop j)=0
  ·rw [h0,Go.Lib.nDigits_small (by decide)]; decide
  ·have h3:∀ a k:Nat,k=a + a->10 ^ a * 10 ^ a=10 ^ k:=λ a k hk => by rw [hk,Nat.pow_add]
   obtain ⟨k,hk⟩:∃ k:Nat,k=300:=⟨_,rfl⟩;rw [<- hk];exact (nd_le h0).2 (Nat.lt_of_le_of_lt h1 (Nat.lt_of_lt_of_eq h (h3 150 k (by omega))))
 ·simp
theorem outT_last {L:LN} {j z:Nat} (hj:j + 1=L.length) (hz:L.getD j 0=z):outT L j=outT L (j + 1) ++ decDigits z:=by
 unfold outT;rw [if_pos (by omega),if_neg (by omega),zfM (by omega) hz,List.drop_eq_nil_of_le (by omega)];simp [val]
theorem outT_step {n:Nat} {L:LN} (h:L=limbs n) {j z:Nat} (hj:j + 1 < L.length) (hz:L.getD j 0=z) (hz9:z < 1000000000):outT L j=outT L (j + 1) ++ (List.replicate (9 - nDigits z) 48 ++ decDigits z):=by
 unfold outT;rw [if_pos (by omega),if_pos hj,zfM (by omega) hz,zkW (zkT h hj) hz9]
end Bi
namespace Go.Proofs.YtfgffkmddanjjaaGreatDoor
open _root_.Go.Proofs.Tryz
open Go.RowKit
theorem zc8 {T e:TypeId} {B b:Nat} {p:Vl} {bs:List Vl} {w w':Wo} (h:Lib.BuilderAtF T e B b p bs w) (hb:BH w w'):Lib.BuilderAtF T e B b p bs w':=by
 have hlt:=h.lt;obtain ⟨hB,v,hbk,hown,hne⟩:=h;refine ⟨hB,v,by rw [hb.block b hlt]; exact hbk,?_,hne⟩;obtain ⟨h1,h2⟩:=hown;refine ⟨h1,h2.imp id ?_⟩;rintro ⟨g,cap,cur,fz,hv,hg,hh,r⟩;have:g < w.heap.size:=by
  by_cases hb:g < w.heap.size
  ·exact hb
  ·rw [Array.getElem?_eq_none (by omega)] at hh; simp at hh
 exact ⟨g,cap,cur,fz,hv,hg,by rw [hb.block g this]; exact hh,r⟩
theorem zcp {T e:TypeId} {B b:Nat} {bs:List Vl} {w w':Wo} (h:Lib.IsBuilderF T e B b bs w) (hb:BH w w'):Lib.IsBuilderF T e B b bs w' :=
 h.imp (λ h => zc8 h hb) (λ h => zc8 h hb)
theorem zdc (a b:List UInt8):Lib.byteCells (a ++ b)=Lib.byteCells a ++ Lib.byteCells b:=by simp [Lib.byteCells]
theorem zgk (c:Nat):Lib.repeatL [48] c=List.replicate c 48:=by
 induction c with
 | zero => rfl
 | succ c ih => simp [Lib.repeatL,ih,List.replicate_succ]
theorem zeV (x:Nat):Lib.itoa (x:Int)=Lib.decDigits x:=by
 unfold Lib.itoa;rw [if_neg (by omega),Int.toNat_natCast]
theorem zlW (c:Nat) (C:Int) (hC:C=(c:Int)) (hc:c<=1000) (w:Wo) :
  CP 191 #[.string ⟨#[48]⟩,.int .i64 C] w λ e w' => e=.returned (.string ⟨(List.replicate c 48).toArray⟩)/\BH w w':=by
 subst hC;have:=Tryz.strings_Repeat ⟨#[48]⟩ c w (by omega) (by show 1 * c<=_; omega);rw [show (⟨#[48]⟩:ByteArray).data.toList=[48] from rfl,zgk] at this;exact this
theorem zdq (B:Nat) (cur s:List UInt8) (w:Wo) (h:Lib.IsBuilderF 205 5 B B (Lib.byteCells cur) w) (hc:cur.length<=100000) (hs:s.length<=100000) (hB:B<=w.heap.size) :
  CP 190 #[pT B 0,.string ⟨s.toArray⟩] w λ e w' => e=.returned (.tuple #[.int .i64 s.length,.nilIface])/\Lib.IsBuilderF 205 5 B B (Lib.byteCells (cur ++ s)) w'/\Below B w w':=by
 have hsz:(⟨s.toArray⟩:ByteArray).size=s.length:=rfl;refine (Tryz.Builder_WriteString_k B B (Lib.byteCells cur) ⟨s.toArray⟩ w h (by rw [Lib.byteCells_length,hsz]; omega) hB).mono ?_;rintro e w' ⟨he,hb,hw,_⟩;rw [hsz] at he;refine ⟨he,.inr ?_,hw⟩;rw [zdc];exact hb
theorem zir (a:Vl) (x:Int) (w:Wo) (ha:zah w a x) (hE:Env w) :
  CP 187 #[a] w λ e w' => e=.returned (.tuple #[.string ⟨(Lib.itoa x).toArray⟩,.int .i64 0])/\BH w w':=by
 obtain ⟨n1,ao1,L1,c1,rfl,Hn1,HL1,HB1,hc1,hl1,hU1⟩:=id ha;go_enter func187,ntmps187;go_wp2_with fail;have hbx:=bA w (.cells #[.bool n1,.slice ao1 L1.length c1] 30);have B1:=Box.new w (.bool n1) (.slice ao1 L1.length c1) 30;have hsz:(w.alloc (.cells #[.bool n1,.slice ao1 L1.length c1] 30)).heap.size=w.heap.size + 1:=by simp
 have hUx:=hU1.mono hbx;have hEx:=hE.mono hbx;clear hU1 hE ha;generalize w.alloc (.cells #[.bool n1,.slice ao1 L1.length c1] 30)=wx at *;(with_reducible refine (znK wx _ hsz n1 ao1 L1 c1 hUx ?_ hEx).mono ?_)
 ·omega
 rintro e w1 ⟨⟨r,HR,HR2,rfl⟩,hb1⟩;obtain rfl:r=0:=HR.out.2 (zaz x n1 L1 Hn1.out HL1.out HB1.out);clear HR HR2 hsz;have B1:=B1.mono hb1;have hU1:=hUx.mono hb1;have hE1:=hEx.mono hb1;have hbw:=bu hbx hb1;clear hUx hEx hbx hb1;have hlt:=B1.lt;have Hit:Hid (Lib.itoa x=(if n1=true then [45] else []) ++ Lib.decDigits x.natAbs):=hii (by
  unfold Lib.itoa;rw [Hn1.out]
  by_cases h:x < 0
  ·simp [h]
  ·simp [h,show x.toNat=x.natAbs by omega])
 by_cases hL:L1=[]
 ·subst hL;have hx:x.natAbs=0:=by
   have:=congrArg Bi.val HL1.out;rw [Bi.val_limbs] at this;exact this.symm
  have hx0:x=0:=by omega
  subst hx0;have hz:Hid (Lib.itoa 0=[48]):=hii (by
   unfold Lib.itoa;rw [if_neg (by decide),show Int.toNat 0=0 from rfl,Lib.decDigits_one (by decide)]
   rfl)
  obtain ⟨p0,p1,_,_⟩:=B1;clear Hit hx hU1;go_wp2;go_ret2;exact ⟨by rw [hz.out]; rfl,hbw⟩
 have hlen:1<=L1.length:=by
  have:=List.length_pos_iff.2 hL;omega
 have HV:Hid (Bi.val L1=x.natAbs):=hii (by rw [HL1.out,Bi.val_limbs]);have HOK:Hid (Bi.Ok L1):=hii (by rw [HL1.out]; exact Bi.limbs_ok _);have HLen:Hid (∀ j,(Bi.outT L1 j).length<=300):=hii (Bi.outT_len (by rw [HV.out]; exact HB1.out));clear hL;obtain ⟨pre,hpre⟩:∃ pre:List UInt8,pre=if n1=true then [45] else []:=⟨_,rfl⟩
 have HPL:pre.length<=1:=by rw [hpre]; split <;> simp
 rw [<- hpre] at Hit;have HPre:=hii hpre;clear hpre;obtain ⟨p0,p1,_,_⟩:=id B1;go_upto_region 7 with fail;have HIB:=Lib.IsBuilderF.of (Lib.fresh_isBuilder 205 5 w1);have hba:=bA w1 (.cells #[.pointer none,nS_] 205);obtain ⟨B,hB⟩:=exi (w1.heap.size);rw [<- hB] at HIB |-;have hBw:B<=(w1.alloc (.cells #[.pointer none,nS_] 205)).heap.size:=by rw [hB]; exact hba.size
 have hbB:Below B w1 (w1.alloc (.cells #[.pointer none,nS_] 205)):=by rw [hB]; exact hba
 rw [<- hB] at hlt;have HS:Hid (∀ W,Below B w1 W->Env W/\U W ao1 L1/\Box W w.heap.size (.bool n1) (.slice ao1 L1.length c1)/\B<=W.heap.size):=hii (λ W h => by
  have h':=h;rw [hB] at h';exact ⟨hE1.mono h',hU1.mono h',B1.mono h',by rw [hB]; exact h'.size⟩)
 have hw1:=hbw;clear hB;generalize w1.alloc (.cells #[.pointer none,nS_] 205)=w2 at *;have B2:=B1.mono hba;clear hE1 hU1 B1 hbw p0 p1 hba;obtain ⟨p0,p1,_,_⟩:=id B2;go_upto_if 19 with fail;go_cut [] (λ wc => Lib.IsBuilderF 205 5 B B (Lib.byteCells pre) wc/\Below B w2 wc)
 case first =>
  have HP:=HPre.out
  cases n1
  ·simp only [Bool.false_eq_true,if_false] at HP;have HP':=hii HP;clear HP;go_wp2_with fail;go_meet;exact ⟨by rw [HP'.out]; exact HIB,br⟩
  ·simp only [if_true] at HP;have HP':=hii HP;clear HP;go_wp2_with fail;go_fit (Tryz.Builder_WriteByte_k B B [] 45 _ HIB (by simp) hBw);rintro e w3 ⟨rfl,hbl,hb3,_⟩;go_wp2_with fail;go_meet;exact ⟨by rw [HP'.out]; exact .inr hbl,hb3⟩
 case rest =>
  obtain ⟨HB0,hb3⟩:=hcut;have hb2:=hbB.trans hb3;clear hb3 hbB HIB hBw B2 p0 p1;obtain ⟨hEc,hUc,hBc,hsc⟩:=HS.out wc hb2;obtain ⟨p0,p1,_,_⟩:=hBc;clear hEc hUc hsc;go_wp2_with fail;clear p0 p1;go_loopw [6,7] (λ s6 _ wr => ∃ i:Int,-1<=i/\i < L1.length/\s6=.int .i64 i/\Lib.IsBuilderF 205 5 B B (Lib.byteCells (pre ++ Bi.outT L1 (i + 1).toNat)) wr/\Below B w1 wr) (λ s6 _ _ => (intOf s6 + 1).toNat)
  case atStart =>
   refine ⟨(L1.length:Int) - 1,by omega,by omega,rfl,?_,hb2⟩;have h1:((L1.length:Int) - 1 + 1).toNat=L1.length:=by omega
   rw [h1];unfold Bi.outT;rw [if_neg (by omega),List.append_nil];exact HB0
  case round =>
   obtain ⟨i,hi1,hi2,rfl,HBi,hbr⟩:=hrel;obtain ⟨hEr,hUr,hBr,hsr⟩:=HS.out wr hbr;obtain ⟨p0,p1,_,_⟩:=hBr
   by_cases hi:i < 0
   ·obtain rfl:i=-1:=by omega
    clear hEr hUr HB0 hb2;go_wp2_with fail;go_fit (Tryz.Builder_String_any_f B B (pre ++ Bi.outT L1 ((-1:Int) + 1).toNat) _ HBi hsr);rintro e w4 ⟨rfl,_,hb4⟩;have HR:Hid (pre ++ Bi.outT L1 ((-1:Int) + 1).toNat=Lib.itoa x):=hii (by
     rw [Hit.out,show ((-1:Int) + 1).toNat=0 from rfl];unfold Bi.outT;rw [if_pos (by omega),List.drop_zero,HV.out])
    have hfin:=hw1.trans ((hbr.trans hb4).mono (Nat.le_of_lt hlt));clear HBi p0 p1;go_wp2;go_ret2;exact ⟨by rw [<- HR.out]; rfl,hfin⟩
   ·obtain ⟨j,rfl⟩:∃ j:Nat,i=(j:Int):=⟨i.toNat,by omega⟩;obtain ⟨z,hz⟩:=zaj (l:=L1) (k:=j) (by omega);obtain ⟨b1,o1,rfl,hcz⟩:=hUr.at' hz;have bz:=HOK.out.at' hz;have HZ:=hii (Bi.getD_of hz);clear hz hUr HB0 hb2;go_wp2_with fail;go_fit (zho (z:Int) (by omega) (by omega) _ hEr);rintro e w3 ⟨rfl,hb3⟩;have HB3:=zcp HBi hb3;have hbr3:=hbr.trans (hb3.mono hsr);obtain ⟨hE3,_,hBr3,hs3⟩:=HS.out w3 hbr3;clear HBi hb3 hbr hEr hsr p0 p1 hcz;obtain ⟨p0,p1,_,_⟩:=hBr3;have hjj:((j:Int) + 1).toNat=j + 1:=by omega
    rw [hjj] at HB3;have hl9:=Bi.nd_small bz;have hlz:=Go.Lib.decDigits_length z;have HO:=HLen.out (j + 1);obtain ⟨cur,hcur⟩:∃ cur,cur=Bi.outT L1 (j + 1):=⟨_,rfl⟩;rw [<- hcur] at HB3 HO;have hlc:(pre ++ cur).length<=301:=by rw [List.length_append]; omega
    by_cases hj:j + 1 < L1.length
    ·have hst:=Bi.outT_step HL1.out hj HZ.out bz;rw [zeV];rw [<- hlz,<- hcur] at hst;generalize Lib.decDigits z=S at *;have HST:=hii hst;have hS9:S.length<=9:=by omega
     have hc1:(j:Int) < (L1.length:Int) - 1:=by omega
     clear hst hcur hlz hl9 hjj HO;go_wp2_with fail;go_fit (zlW (9 - S.length) _ (by omega) (by omega) w3);rintro e w4 ⟨rfl,hb4⟩;have HB4:=zcp HB3 hb4;have hbr4:=hbr3.trans (hb4.mono hs3);have hs4:=(HS.out w4 hbr4).2.2.2;clear HB3 hb4 hbr3 hs3 p0 p1 hE3;have hzl:(List.replicate (9 - S.length) (48:UInt8)).length<=9:=by simp
     generalize List.replicate (9 - S.length) (48:UInt8)=Z at *;go_wp2_with fail;go_fit (zdq B (pre ++ cur) Z w4 HB4 (by omega) (by omega) hs4);rintro e w5 ⟨rfl,HB5,hb5⟩;have hbr5:=hbr4.trans hb5;have hs5:=(HS.out w5 hbr5).2.2.2;have hlc5:(pre ++ cur ++ Z).length<=310:=by rw [List.length_append]; omega
     clear HB4 hb5 hbr4 hs4;go_wp2_with fail;go_fit (zdq B (pre ++ cur ++ Z) S w5 HB5 (by omega) (by omega) hs5);rintro e w6 ⟨rfl,HB6,hb6⟩;have hbr6:=hbr5.trans hb6;clear HB5 hb6 hbr5 hs5;go_wp2;go_roundw
     case rel => exact ⟨(j:Int) - 1,by omega,by omega,rfl,by rw [show ((j:Int) - 1 + 1).toNat=j by omega,HST.out]; simpa [List.append_assoc] using HB6,hbr6⟩
     case measure => simp [intOf]
    ·have hst:=Bi.outT_last (show j + 1=L1.length by omega) HZ.out;rw [zeV];rw [<- hcur] at hst;generalize Lib.decDigits z=S at *;have HST:=hii hst;have hS9:S.length<=9:=by omega
     have hc1:¬ (j:Int) < (L1.length:Int) - 1:=by omega
     clear hst hcur hlz hl9 hjj HO;go_wp2_with fail;go_fit (zdq B (pre ++ cur) S w3 HB3 (by omega) (by omega) hs3);rintro e w6 ⟨rfl,HB6,hb6⟩;have hbr6:=hbr3.trans hb6;clear HB3 hb6 hbr3 hs3 p0 p1 hE3;go_wp2;go_roundw
     case rel => exact ⟨(j:Int) - 1,by omega,by omega,rfl,by rw [show ((j:Int) - 1 + 1).toNat=j by omega,HST.out]; simpa [List.append_assoc] using HB6,hbr6⟩
     case measure => simp [intOf]
end Go.Proofs.YtfgffkmddanjjaaGreatDoor
namespace Bi
open Go.Lib (decDigits nDigits itoa)
end Bi
namespace Bi
def Sm (x:Nat):Prop:=x < 1000000000
end Bi
namespace Go.Proofs.YtfgffkmddanjjaaGreatDoor
open _root_.Go.Proofs.Tryz
open Go.RowKit
end Go.Proofs.YtfgffkmddanjjaaGreatDoor
namespace Bi
open Go.Lib (decDigits nDigits itoa)
end Bi
