/-
  A region that draws its order, by an invariant: each operation is met once, under the flags of those that have been carried out.
  The conditions: the region's operations wait only for earlier ones (zkF); the invariant J speaks of the flags, of the values that the operations have left, and of the world.
-/
import Derived.Test.YtfgffkmddanjjaaGreatDoorI2
import Derived.Deep.CutBlock
import Derived.RegionTactic
import Derived.BigRegion
import Derived.Lib.Atoi
import Derived.Lib.SlTrimSet
import Derived.Lib.Strings
import Derived.Shelf.Strings.SlTrimAscii
import Derived.Test.YtfgffkmddanjjaaGreatDoorProg
import Derived.WalkKit
import Derived.Below
import Derived.Test.YtfgffkmddanjjaaGreatDoorShelfB
import Derived.Lib.AtoiErrMem
set_option linter.unusedVariables false
set_option linter.unusedSimpArgs false
set_option maxRecDepth 100000
set_option maxHeartbeats 25600000
namespace Bi
structure zpm(top second x2 head q:Nat):Prop where
 lt:q<1000000000
 init:q*top<=head
 step:∀g rest,g*top+rest=head->(1000000000<=g\/rest*1000000000+x2<g*second)->q<g
 fin:∀g rest,g*top+rest=head->g<=1000000000->(g*second<=rest*1000000000+x2\/1000000000<=rest)->g<=q+1
theorem zmP{x0 x1 x2 top second P xl yl X Y:Nat}(hX:X=((x0*1000000000+x1)*1000000000+x2)*P+xl)(hY:Y=(top*1000000000+second)*P+yl)(hyl:yl<P)(hs:second<1000000000)
  (hlt:X<Y*1000000000):x0<=top:=by
 have h1:(x0*1000000000*1000000000)*P<=((x0*1000000000+x1)*1000000000+x2)*P:=Nat.mul_le_mul_right _ oM;have h2:(top*1000000000+second+1)*P<=((top+1)*1000000000)*P:=Nat.mul_le_mul_right _ oM;rw[Nat.add_mul (top*1000000000+second),Nat.one_mul]at h2;have h3:Y*1000000000<=((top+1)*1000000000)*P*1000000000:=Nat.mul_le_mul_right _ oM;rw[Nat.mul_right_comm]at h3;have h4:(x0*1000000000*1000000000)*P<((top+1)*1000000000*1000000000)*P:=oM;have:=Nat.lt_of_mul_lt_mul_right h4;omega
theorem guess_of{ss ys:LN}{k x0 x1 x2 top second:Nat}(hos:Ok ss)(hoy:Ok ys)(hsl:ss.length=k+3)(hyl:ys.length=k+2)
  (h0:ss[k+2]?=some x0)(h1:ss[k+1]?=some x1)(h2:ss[k]?=some x2)(ht:ys[k+1]?=some top)(hs:ys[k]?=some second)(ht1:1<=top)(hlt:val ss<val ys*1000000000) :
  zpm top second x2 (x0*1000000000+x1) (val ss / val ys)/\x0<=top:=by
 have hX:=ziY hsl h0 h1 h2;have hY:=zmh hyl ht hs;have bxl:=zbv hos (k:=k) oM;have byl:=zbv hoy (k:=k) oM;have b2:=hos.at' h2;have bs:=hoy.at' hs;have hY0:0<val ys:=by
  rcases Nat.eq_zero_or_pos (val ys)with h|h
  ·rw[h]at hlt;omega
  ·exact h
 have hq:val ss / val ys*val ys<=val ss:=Nat.div_mul_le_self _ _;have hq2:val ss<(val ss / val ys+1)*val ys:=by rw[Nat.mul_comm];exact Nat.lt_mul_div_succ _ hY0
 generalize val ss / val ys=q at*;refine⟨⟨?_,?_,?_,?_⟩,zmP hX hY byl bs hlt⟩
 ·have:q*val ys<1000000000*val ys:=by rw[Nat.mul_comm 1000000000];omega
  exact Nat.lt_of_mul_lt_mul_right this
 ·exact ziE hq hY rfl hX bxl rfl b2
 ·intro g rest hg hc;exact ziD hq hlt hY rfl hX bxl rfl hg hc
 ·intro g rest hg hgB hc;have h5:=zjL hY byl rfl bs ht1 hX rfl hg hgB hc;have h3:(g-1)*val ys<(q+1)*val ys:=oM;have:=Nat.lt_of_mul_lt_mul_right h3;omega
theorem seg_len{zs:LN}{i m:Nat}(h:i+m<=zs.length):((zs.drop i).take m).length=m:=by simp;omega
theorem seg_get{zs:LN}{i m j x:Nat}(hj:j<m)(h:zs[i+j]?=some x):((zs.drop i).take m)[j]?=some x:=by
 rw[List.getElem?_take_of_lt hj,List.getElem?_drop];exact h
theorem round_start{zs ys:LN}{i k J:Nat}(hz:i+(k+3)<=zs.length)(hoy:Ok ys)(hyl:ys.length=k+2)(hJ:J=i+1)(hlt:val zs<val ys*1000000000 ^ J) :
  val ((zs.drop i).take (k+3))<val ys*1000000000/\val (zs.drop (i+(k+3)))=0:=by
 subst hJ;have h1:=val_lt hoy;rw[hyl]at h1;have h2:val ys*1000000000 ^ (i+1)<=1000000000 ^ (k+2)*1000000000 ^ (i+1):=Nat.mul_le_mul_right _ oM;rw[<-Nat.pow_add,show k+2+(i+1)=i+(k+3) by omega]at h2;have h3:=zkV hz hlt h2;refine⟨?_,h3⟩;have h4:=zeP hz;rw[h3,Nat.mul_zero,Nat.add_zero]at h4;have h5:1000000000 ^ i*val ((zs.drop i).take (k+3))<1000000000 ^ i*(val ys*1000000000):=by
  rw[Nat.pow_succ,<-Nat.mul_assoc,Nat.mul_comm (val ys),Nat.mul_assoc]at hlt;omega
 exact Nat.lt_of_mul_lt_mul_left h5
theorem zfm{qs:LN}{i q:Nat}(h:i<qs.length):(qs.set i q).drop i=q :: qs.drop (i+1):=by
 rw[List.drop_eq_getElem_cons (by simpa using h),List.getElem_set_self]
 congr 1
 exact zfN λj hj=>List.getElem?_set_ne oM
theorem round_end{zs zs' ys qs:LN}{i m q V J J':Nat}(hm:i+m<=zs.length)(hl:zs'.length=zs.length)(hfix:∀j,(j<i\/i+m<=j)->zs'[j]?=zs[j]?)(hz0:val (zs.drop (i+m))=0)(ho:Ok zs)
  (hX:val ((zs'.drop i).take m)+q*val ys=val ((zs.drop i).take m))(hlt:val ((zs'.drop i).take m)<val ys)(hqi:i<qs.length)(hJ:J=i)(hJ':J'=i+1)
  (hI:val zs+val ys*(1000000000 ^ J'*val (qs.drop J'))=V) :
  val zs'+val ys*(1000000000 ^ J*val ((qs.set i q).drop J))=V/\val zs'<val ys*1000000000 ^ J:=by
 subst hJ hJ';have e1:=zeP hm;have e2:=zeP (l:=zs') (j:=J) (m:=m) oM;rw[zji (λj hj=>hfix j (.inl hj)),zfN (λj hj=>hfix j (.inr hj))]at e2;rw[hz0,Nat.mul_zero,Nat.add_zero]at e1 e2;have hb:=zbv ho (k:=J) oM;rw[zfm hqi];generalize val (zs.take J)=A at*;generalize val ((zs'.drop J).take m)=X' at*;generalize val ((zs.drop J).take m)=X at*;generalize val ys=Y at*;generalize hT:val (qs.drop (J+1))=T at*;generalize hP:1000000000 ^ J=P at*;have hp:1000000000 ^ (J+1)=P*1000000000:=by rw[Nat.pow_succ,hP]
 rw[hp]at hI;refine⟨?_,?_⟩
 ·rw[val,hT];subst hX;rw[e2,<-hI,e1];have a1:Y*(P*(q+1000000000*T))=P*(q*Y)+Y*(P*1000000000*T):=by
   rw[Nat.mul_add,Nat.mul_add,<-Nat.mul_assoc P 1000000000 T]
   congr 1
   rw[Nat.mul_left_comm,Nat.mul_comm Y q]
  have a2:P*(X'+q*Y)=P*X'+P*(q*Y):=Nat.mul_add _ _ _;rw[a1,a2];omega
 ·rw[e2];have:P*(X'+1)<=P*Y:=Nat.mul_le_mul_left _ hlt;rw[Nat.mul_add,Nat.mul_comm P Y]at this;omega
theorem pos_of_lt_mul{a b c:Nat}(h:a<b*c):0<b:=by
 rcases Nat.eq_zero_or_pos b with h0|h0
 ·subst h0;omega
 ·exact h0
theorem val_lt_pow{l:LN}{k:Nat}(ho:Ok l)(h:l.length=k+2):val l<1000000000 ^ (k+3):=by
 have h1:=val_lt ho;rw[h]at h1;exact Nat.lt_of_lt_of_le h1 (Nat.pow_le_pow_right oM oM)
theorem seg_lt{zs:LN}{i m:Nat}(ho:Ok zs)(h:i+m<=zs.length):val ((zs.drop i).take m)<1000000000 ^ m:=by
 have:=val_lt ((ho.drop i).take m)
 rwa [seg_len h]at this
theorem sub_no{X X' Y g q P:Nat}(hq1:q<=g)(hq:q=X / Y)(hY:0<Y)(h0:X'+g*Y=X+P*0):g=q/\X'+q*Y=X/\X'<Y:=by
 have h:X'+g*Y=X:=by rw[h0];omega
 have h1:g<=q:=by rw[hq,Nat.le_div_iff_mul_le hY];omega
 obtain rfl:g=q:=oM;have h2:X<Y*(X / Y+1):=Nat.lt_mul_div_succ _ hY;rw[<-hq,Nat.mul_add,Nat.mul_comm Y g]at h2;exact⟨rfl,h,oM⟩
theorem sub_yes{X X' X2 Y g q P ca:Nat}(hq1:q<=g)(hq2:g<=q+1)(hq:q=X / Y)(hY:0<Y)(_hYP:Y<P)(hX':X'<P)(hX2:X2<P)(hca:ca<=1)(h0:X'+g*Y=X+P*1)(h2:X2+P*ca=X'+Y) :
  g=q+1/\X2+q*Y=X/\X2<Y:=by
 have h:X'+g*Y=X+P:=by rw[h0];omega
 have h3:X<Y*(X / Y+1):=Nat.lt_mul_div_succ _ hY;have h5:q*Y<=X:=by rw[hq];exact Nat.div_mul_le_self _ _
 rw[<-hq,Nat.mul_add,Nat.mul_comm Y q]at h3;have h4:g=q+1:=by
  rcases Nat.lt_or_ge q g with h4|h4
  ·omega
  ·obtain rfl:g=q:=oM;omega
 subst h4;rw[Nat.add_mul]at h;rcases (show ca=0\/ca=1 by omega)with rfl|rfl
 ·omega
 ·exact⟨rfl,oM,oM⟩
end Bi
namespace Go.Proofs.YtfgffkmddanjjaaGreatDoor
open _root_.Go.Proofs.Tryz
open Go.RowKit
theorem za8.touch{w w':Wo}{B b g n cap:Nat}{l:LN}(h:za8 w B (.slice (sD b 0) n cap) l)(ht:zbl g w w')(hne:b≠g):za8 w' B (.slice (sD b 0) n cap) l:=by
 obtain⟨h1,h2⟩:=h;refine⟨h1,h2.imp id ?_⟩;rintro⟨g',cap',cur,hv,hg,hh,r⟩;have:g'=b:=by
  simp only[Value.slice.injEq,Option.some.injEq,Addr.mk.injEq]at hv;exact hv.1.1.symm
 subst this;exact⟨g',cap',cur,hv,hg,by rw[ht.block g' hne];exact hh,r⟩
theorem ziI(m n k:Nat)(u v:LN)(Hu:Hid (u=Bi.limbs m))(Hv:Hid (v=Bi.limbs n))(au av:OA)(cu cv:Nat)(w:Wo)(hmu:u.length<=100000000)(hvl:v.length=k+2)(hle:Hid (n<=m))
  (hu:U w au u)(hv:U w av v)(huv:k+2<=u.length) :
  CP 162 #[.slice au u.length cu,.slice av (k+2) cv] w λe w'=>zoG w' m n e/\BH w w':=by
 have Hou:Hid (Bi.Ok u):=hii (by rw[Hu.o];exact Bi.limbs_ok _);have Hov:Hid (Bi.Ok v):=hii (by rw[Hv.o];exact Bi.limbs_ok _);obtain⟨t,ht⟩:=zal (l:=v) (k:=k+1) oM;have htb:=Hov.o.at' ht;have ht0:t≠0:=by
  have hc:=Bi.limbs_canon n;rw[<-Hv.o]at hc;have hne:v≠[]:=by intro h;rw[h]at hvl;simp at hvl
  have:=hc hne;rw[List.getLast_eq_getElem]at this;have e:v[v.length-1]'oM=t:=by
   have h2:=(List.getElem?_eq_some_iff.1 ht).2;simp only[hvl];exact h2
  rwa [e]at this
 have HVL:=hii hvl;have hvl1:((k:Int)+2==1)=false:=by rw[beq_eq_false_iff_ne];omega
 have hfit:=Bi.norm_fit Hov.o (n:=k+1) hvl ht;obtain⟨d,hd⟩:∃d,d=1000000000 / (t+1):=⟨_,rfl⟩;have hd1:1<=d:=by rw[hd,Nat.le_div_iff_mul_le oM];omega
 have hd2:d<=500000000:=by rw[hd];apply Nat.div_le_of_le_mul;omega
 have hdi:(1000000000:Int) / ((t:Int)+1)=(d:Int):=by rw[hd];simp
 rw[<-hd]at hfit;have HD:=hii hd;have HFV:Hid (Bi.val v*d<1000000000 ^ (k+2)):=hii hfit;have HFU:Hid (Bi.val u*d<1000000000 ^ (u.length+1)):=hii (by
  rw[Nat.pow_succ];have h1:=Bi.val_lt Hou.o;have h2:Bi.val u*d<1000000000 ^ u.length*d:=Nat.mul_lt_mul_of_pos_right h1 hd1;have h3:1000000000 ^ u.length*d<=1000000000 ^ u.length*1000000000:=Nat.mul_le_mul_left _ oM;omega)
 clear hd hfit;have hk1:k+2<=v.length:=Nat.le_of_eq hvl.symm;have hk2:v.length<=k+2:=Nat.le_of_eq hvl;have HT:=hii ht;clear hvl;go_enter func162,ntmps162;go_wp2_with fail;have hc:=zbj m n u v Hu Hv au av cu cv w oM oM hu hv;rw[HVL.o]at hc;(with_reducible refine hc.mono ?_);clear hc;rintro e w1⟨rfl,hb1⟩;have hcmp:¬zbm m n<0:=by have:=hle.o;unfold zbm;rw[if_neg oM];split<;>omega
 have hu1:=hu.mono hb1;have hv1:=hv.mono hb1;obtain⟨bv,ov,rfl,hct⟩:=hv1.at' ht;clear hu hv ht;go_upto_region 8 with fail;go_wp2_with fail;have hs:=zem u d (u.length+1) au cu w1 oM oM oM Hou.o hu1 HFU oM;rw[show((u.length+1:Nat):Int)=(u.length:Int)+1 from by omega]at hs;(with_reducible refine hs.mono ?_);clear hs;rintro e w2⟨⟨xs,hxl,HVX,hox,rfl,hownx⟩,hb2⟩;have hv2:=hv1.mono hb2;clear hct hu1 hv1;have HXL:=hii hxl;have hxl2:u.length+1<=xs.length:=Nat.le_of_eq hxl.symm;have hxl3:xs.length<=u.length+1:=Nat.le_of_eq hxl;clear hxl;go_wp2_with fail;have hs:=zem v d (k+2) _ cv w2 oM oM oM Hov.o hv2 HFV hk2;rw[show((k+2:Nat):Int)=(k:Int)+2 from by omega,HVL.o]at hs;(with_reducible refine hs.mono ?_);clear hs;rintro e w3⟨⟨ys,hyl,HVY,hoy,rfl,howny⟩,hb3⟩;have hownx3:=hownx.kept hb3 nl;have hsz12:=hownx.len.2.2.2;have hsz23:=howny.len.2.2.2;obtain⟨top,htop⟩:=zal (l:=ys) (k:=k+1) oM;obtain⟨sec,hsec⟩:=zal (l:=ys) (k:=k) oM;have btop:=hoy.at' htop;have bsec:=hoy.at' hsec;have hct:=howny.at' htop;have hcs:=howny.at' hsec;have hhalf:=Bi.norm_half Hov.o hoy (n:=k+1) HVL.o hyl HT.o ht0 htop (by rw[HVY.o,HD.o]);have HTOP:=hii htop;have HSEC:=hii hsec;clear htop hsec;have HYL:=hii hyl;clear hyl;go_upto_region 9 with fail;go_quiet (fail);have hbq:Below w1.heap.size w1 (w3.drewN nq):=below_drewN (hb2.trans (hb3.mono hb2.size)) nq;have hbx:Below w2.heap.size w2 (w3.drewN nq):=below_drewN hb3 nq;have hby:Below w3.heap.size w3 (w3.drewN nq):=below_drewN br nq;have hownx4:=hownx.kept hbx nl;have howny4:=howny.kept hby nl;generalize w3.drewN nq=w4 at*;go_wp2_with (at_make;refine za2 _ rfl _ _ rfl w4 w4.heap.size _ _ (u.length-(k+2)+1) rfl rfl oM oM oM nl br ?_;intro w5 hownq5 hb5);have hownx5:=hownx4.kept hb5 nl;have howny5:=howny4.kept hb5 nl;clear hownx hownx3 hownx4 howny howny4 hct hcs hv2;obtain⟨M,hM⟩:∃M,M=u.length-(k+2):=⟨_,rfl⟩;have HM:=hii hM;have hMu:u.length=M+(k+2):=oM;have HMU:=hii hMu;have hM1:u.length<=M+(k+2):=Nat.le_of_eq hMu;have hM2:M+(k+2)<=u.length:=Nat.le_of_eq hMu.symm;clear hM hMu;go_loopg [15] (M+1) (λgk s wr=>∃(j:Int)(zs qs:LN),-1<=j/\j<(gk:Int)/\j<=M/\s=.int .i64 j/\zs.length=u.length+1/\qs.length=M+1/\Bi.Ok zs/\Bi.Ok qs /\
   Hid (Bi.val zs+Bi.val ys*(1000000000 ^ (j+1).toNat*Bi.val (qs.drop (j+1).toNat))=Bi.val u*d)/\Hid (Bi.val zs<Bi.val ys*1000000000 ^ (j+1).toNat) /\
   za8 wr w1.heap.size (.slice (some ⟨w1.heap.size,0,none⟩) (u.length+1) (u.length+1)) zs/\za8 wr w4.heap.size (.slice (some ⟨w4.heap.size,0,none⟩) (u.length-(k+2)+1) (u.length-(k+2)+1)) qs /\
   za8 wr w2.heap.size (.slice (some ⟨w2.heap.size,0,none⟩) (k+2) (k+2)) ys/\w5.heap.size<=wr.heap.size/\BH w1 wr)
 case atStart=>
  refine⟨_,xs,_,oM,oM,oM,rfl,HXL.o,by simp;omega,hox,Bi.Ok.replicate _,hii ?_,hii ?_,hownx5,hownq5,howny5,nl,hbq.trans (hb5.mono hbq.size)⟩
  ·exact Bi.div_begin oM HVX.o
  ·exact Bi.div_start' Hou.o HMU.o HVL.o HT.o ht0 hd1 HVX.o HVY.o oM
 case round=>
  obtain⟨j,zs,qs,hj1,hjg,hj2,rfl,hzl,hql,hoz,hoq,HI,HLT,hownx,hownq,howny,hsz,hbr⟩:=hrel;have HZL:=hii hzl;have HQL:=hii hql;have hzl2:u.length+1<=zs.length:=Nat.le_of_eq hzl.symm;clear hzl hql hownx5 hownq5 howny5
  by_cases hj:j<0
  ·obtain rfl:j=-1:=oM;obtain⟨ax,cx,ex,hcx,hUx⟩:=hownx.read;simp only[Value.slice.injEq]at ex;obtain⟨rfl,hz9,rfl⟩:=ex;clear hz9;obtain⟨aq,cq,eq,hcq,hUq⟩:=hownq.read;simp only[Value.slice.injEq]at eq;obtain⟨rfl,eq2,rfl⟩:=eq;have h1:=HI.o;have h2:=HLT.o;simp only[Int.reduceNeg,Int.reduceAdd,Int.toNat_zero,List.drop_zero,Nat.pow_zero,Nat.one_mul,Nat.mul_one]at h1 h2;have hys:=Bi.val_lt hoy;rw[HYL.o]at hys;have HTK:Hid (Bi.val (zs.take (k+2))=Bi.val zs):=hii (Bi.val_take_small oM oM);rw[HVY.o]at h1 h2;have HE:=hii (Bi.div_end hd1 h1 h2);have hlen:(zs.take (k+2)).length=k+2:=by simp;omega
   have hUt:=hUx.take (k+2);have hot:=hoz.take (k+2);have HEQ:=hii eq2;clear h1 h2 hys hcx eq2;have HLEN:=hii hlen;clear hlen hUx;go_wp2_with fail;have ht:=zbR (zs.take (k+2)) _ (u.length+1) wr (by rw[HLEN.o];omega) (by rw[HLEN.o];omega) hUt;rw[HLEN.o]at ht;(with_reducible refine ht.mono ?_);clear ht;rintro e w6⟨L1,hL1,hl1,rfl,hU1,rfl⟩;have HL1:Hid (L1=Bi.limbs (Bi.val zs)):=hii (by rw[hL1,Bi.trim_eq_limbs hot,HTK.o]);have hl1':L1.length<=100000002:=oM;clear hL1 hl1;go_wp2_with fail;(with_reducible refine(zfL L1 d _ _ wr ?_ oM oM ?_ hU1).mono ?_)
   ·omega
   ·rw[HL1.o];exact eJ
   rintro e w6⟨⟨ar,R,cr,r,HR,_,_,_,hcr,rfl,HUr⟩,hb6⟩;have hUq6:=hUq.mono hb6;clear hUq hUt hU1;go_wp2_with fail;have ht:=zbR qs _ (u.length-(k+2)+1) w6 (by rw[HQL.o];omega) hcq hUq6;rw[<-HEQ.o]at ht;(with_reducible refine ht.mono ?_);clear ht;rintro e w7⟨Q,hQ,hQl,rfl,hU7,rfl⟩;have HQ:Hid (Q=Bi.limbs (Bi.val qs)):=hii (by rw[hQ,Bi.trim_eq_limbs hoq]);clear hQ;go_wp2;go_ret2;refine⟨⟨_,_,Q,R,_,_,hii ?_,hii ?_,hQl,hcr,rfl,hii hU7,HUr⟩,Below.step hb1 (bu hbr hb6) nl⟩
   ·rw[HQ.o,HE.o.1,Hu.o,Hv.o,Bi.val_limbs,Bi.val_limbs]
   ·rw[HR.o,HL1.o,Bi.val_limbs,HE.o.2,Hu.o,Hv.o,Bi.val_limbs,Bi.val_limbs]
  ·obtain⟨i,rfl⟩:∃i:Nat,j=(i:Int):=⟨j.toNat,oM⟩;have HST:=hii (Bi.round_start (zs:=zs) (ys:=ys) (i:=i) (k:=k) (J:=((i:Int)+1).toNat) oM hoy HYL.o oM HLT.o);obtain⟨x0,hx0⟩:=zal (l:=zs) (k:=i+(k+2)) oM;obtain⟨x1,hx1⟩:=zal (l:=zs) (k:=i+(k+1)) oM;obtain⟨x2,hx2⟩:=zal (l:=zs) (k:=i+k) oM;have b0:=hoz.at' hx0;have b1:=hoz.at' hx1;have b2:=hoz.at' hx2;have c0:=hownx.at' hx0;have c1:=hownx.at' hx1;have c2:=hownx.at' hx2;obtain⟨hG,h0t⟩:=Bi.guess_of ((hoz.drop i).take (k+3)) hoy (Bi.seg_len oM) HYL.o (Bi.seg_get oM hx0) (Bi.seg_get oM hx1) (Bi.seg_get oM hx2) HTOP.o HSEC.o oM HST.o.1;obtain⟨qd,hqd⟩:∃qd,qd=Bi.val ((zs.drop i).take (k+3)) / Bi.val ys:=⟨_,rfl⟩;rw[<-hqd]at hG;have HQD:=hii hqd;have HG:=hii hG;obtain⟨hh,hhh⟩:∃hh:Nat,hh=x0*1000000000+x1:=⟨_,rfl⟩;have hhd:(x0:Int)*1000000000+x1=(hh:Int):=by rw[hhh];simp
   have hhb:hh<=1000000000000000000:=oM;rw[<-hhh]at hG;have HG:=hii hG;have hg0:=Bi.guess_first_le h0t b1 hhalf;have hg1:qd<=hh / top:=by rw[Nat.le_div_iff_mul_le oM];exact hG.init
   have hg2:hh / top*top+hh % top=hh:=by rw[Nat.mul_comm];exact Nat.div_add_mod _ _
   have hg3:hh % top<top:=Nat.mod_lt _ oM;have hgq:(hh:Int) / (top:Int)=((hh / top:Nat):Int):=sM;have hgr:(hh:Int) % (top:Int)=((hh % top:Nat):Int):=sM;rw[<-hhh]at hg0;generalize hh / top=g0 at hg0 hg1 hg2 hgq;generalize hh % top=r0 at hg2 hg3 hgr;have HG2:=hii hg2;clear hx0 hx1 hx2 hqd hG hhh hg2;go_upto_region 14 with fail;go_quiet (fail);have hBd:=below_drewN (Below.refl wr.heap.size wr) nq;have hownx:=hownx.kept hBd nl;have hownq:=hownq.kept hBd nl;have howny:=howny.kept hBd nl;have hbr:=below_drewN hbr nq;have c2:(wr.drewN nq).cell? ⟨w1.heap.size,i+k,none⟩=some (.int .u32 (x2:Int)):=c2;have hsz:=Nat.le_trans hsz hBd.size;clear c0 c1 hBd;generalize wr.drewN nq=ws at*;go_upto_region 15 with fail;go_quiet (fail);have hBd:=below_drewN (Below.refl ws.heap.size ws) nq;have hownx:=hownx.kept hBd nl;have hownq:=hownq.kept hBd nl;have howny:=howny.kept hBd nl;have hbr:=below_drewN hbr nq;have c2:(ws.drewN nq).cell? ⟨w1.heap.size,i+k,none⟩=some (.int .u32 (x2:Int)):=c2;have hsz:=Nat.le_trans hsz hBd.size;clear hBd;generalize ws.drewN nq=wt at*;go_upto_block 2 with fail;go_cut [17,18]from 83 to 161 (λs17 s18 wc=>∃g r:Nat,s17=.int .u64 g/\s18=.int .u64 r/\qd<=g/\g<=qd+1/\g<=1000000000/\wt=wc)
   case first=>
    go_wp2_with fail;go_loop [17,18] (λs17 s18=>∃g r:Nat,s17=.int .u64 g/\s18=.int .u64 r/\qd<=g/\g<=1000000001/\r<1000000000/\Hid (g*top+r=hh)) (λs17 _=>(intOf s17).toNat)
    case atStart=>exact⟨g0,r0,rfl,rfl,hg1,hg0,oM,HG2⟩
    case round=>
     clear hgq hgr hg1 hg0 HG2;have c2':wt.cell? ⟨w1.heap.size,i+(k+2)-2,none⟩=some (.int .u32 (x2:Int)):=c2;obtain⟨g,r,rfl,rfl,hq1,hg,hr,HI2⟩:=hrel;obtain⟨p,hp⟩:∃p:Nat,p=g*sec:=⟨_,rfl⟩;have hp2:p<=1000000001000000000:=by rw[hp];exact Nat.le_trans (Nat.mul_le_mul hg (show sec<=999999999 by omega)) dM
     have hp3:(g:Int)*(sec:Int)=(p:Int):=by rw[hp];simp
     have HP:=hii hp;clear hp;obtain⟨y,hy⟩:∃y:Nat,y=r*1000000000+x2:=⟨_,rfl⟩;have hy2:y<=1000000000000000000:=oM;have hy3:(r:Int)*1000000000+(x2:Int)=(y:Int):=by rw[hy];simp
     have HY:=hii hy;clear hy
     by_cases hyes:(1000000000:Int)<=g\/(y:Int)<p
     ·have hlt:qd<g:=HG.o.step g r HI2.o (by rw[<-HP.o,<-HY.o];omega);have hyes':(1000000000:Int)<=g\/(¬(1000000000:Int)<=g/\(y:Int)<p):=oM;clear hyes
      by_cases hr2:(1000000000:Int)<=(r:Int)+top
      ·have HF:=hii (HG.o.fin (g-1) (r+top) (by have:=HI2.o;rw[Nat.sub_mul,Nat.one_mul];have:top<=g*top:=Nat.le_mul_of_pos_left _ oM;omega) oM (.inr oM));rcases hyes' with h|⟨h,h'⟩
       ·go_wp2;go_meet
        case rel=>exact⟨g-1,r+top,by rw[Int.ofNat_sub oM];rfl,gM,oM,HF.o,oM,rfl⟩
       ·have hb:decide ((1000000000:Int)<=(g:Int))=false:=by simpa using h
        go_wp2;go_meet
        case rel=>exact⟨g-1,r+top,by rw[Int.ofNat_sub oM];rfl,gM,oM,HF.o,oM,rfl⟩
      ·rcases hyes' with h|⟨h,h'⟩
       ·go_wp2;go_round
        case rel=>exact⟨g-1,r+top,by rw[Int.ofNat_sub oM];rfl,gM,oM,oM,oM,hii (by have:=HI2.o;rw[Nat.sub_mul,Nat.one_mul];have:top<=g*top:=Nat.le_mul_of_pos_left _ oM;omega)⟩
        case measure=>(simp[intOf];try omega)
       ·have hb:decide ((1000000000:Int)<=(g:Int))=false:=by simpa using h
        go_wp2;go_round
        case rel=>exact⟨g-1,r+top,by rw[Int.ofNat_sub oM];rfl,gM,oM,oM,oM,hii (by have:=HI2.o;rw[Nat.sub_mul,Nat.one_mul];have:top<=g*top:=Nat.le_mul_of_pos_left _ oM;omega)⟩
        case measure=>(simp[intOf];try omega)
     ·have h:¬(1000000000:Int)<=g:=oM;have h':¬(y:Int)<p:=oM;clear hyes;have HF:=hii (HG.o.fin g r HI2.o oM (.inl (by rw[<-HP.o,<-HY.o];omega)));have hb:decide ((1000000000:Int)<=(g:Int))=false:=by simpa using h
      go_wp2;go_meet
      case rel=>exact⟨g,r,rfl,rfl,hq1,HF.o,oM,rfl⟩
   case rest=>
    obtain⟨g,r,rfl,rfl,hq1,hq2,hg,rfl⟩:=hcut;clear c2 hgq hgr hg1 hg0 HG2;obtain⟨ay,cy,ey,hcy,hUy⟩:=howny.read;simp only[Value.slice.injEq]at ey;obtain⟨rfl,hz9,rfl⟩:=ey;clear hz9 hcy;go_wp2_with fail;have hsub:=zfF w1.heap.size w1.heap.size (u.length+1) (u.length+1) i (i+(k+2)+1-i) (u.length+1-i) zs ys (some ⟨w2.heap.size,0,none⟩) (k+2) g wt (by rw[HZL.o];omega) (by rw[HZL.o];omega) (by rw[HYL.o];omega) hg hoz hoy hownx hUy
     (by rintro b o h;simp only[Option.some.injEq,Addr.mk.injEq]at h;omega)
    rw[HYL.o]at hsub;(with_reducible refine hsub.mono ?_);clear hsub;rintro e w6⟨hS,htr⟩;rw[show i+(k+2)+1-i=k+3 by omega]at hS;obtain⟨zs1,bo,qb,hzl1,hoz1,hbo,rfl,HQB,HX1,HFX,hown1⟩:=hS;have HZL1:=hii hzl1;have hzl3:zs.length<=zs1.length:=Nat.le_of_eq hzl1.symm;have hszs:w2.heap.size<=w4.heap.size:=hbx.size;have hsz1:w3.heap.size<=w4.heap.size:=hby.size;have hownq1:=hownq.touch htr oM;have howny1:=howny.touch htr oM;have hbr1:=hbr.trans (htr.below nl);have hsz6:w5.heap.size<=w6.heap.size:=by rw[htr.size];exact hsz
    have HXD:=hii (Bi.pos_of_lt_mul HLT.o);have HYP2:=hii (Bi.val_lt_pow hoy HYL.o);have HS1:=hii (Bi.seg_lt (i:=i) (m:=k+3) hoz1 oM);obtain⟨z,hz⟩:=zal (l:=qs) (k:=i) (by rw[HQL.o];omega);have hcz:=hownq1.at' hz;have hfz:=hownq1.free i;clear hz hzl1 hownq howny hownx htr hbr hUy;rcases (show bo=0\/bo=1 by omega)with rfl|rfl
    ·obtain rfl:qb=false:=by cases qb with|false=>rfl|true=>exact absurd (HQB.o.1 rfl) dM
     have HNO:=hii (Bi.sub_no hq1 HQD.o HXD.o HX1.o);go_wp2;have hownq2:=hownq1.set i (g:Int) qd (by rw[HNO.o.1]);have htq:zbl w4.heap.size w6 (w6.setCell ⟨w4.heap.size,i,none⟩ (.int .u32 (g:Int))):=(zbl.refl w4.heap.size _).setCell (p:=⟨w4.heap.size,i,none⟩) rfl _;have hownx2:=hown1.touch htq oM;have howny2:=howny1.touch htq oM;have hbr2:=hbr1.setCell (p:=⟨w4.heap.size,i,none⟩) (by simp only;omega) (.int .u32 (g:Int));have hszf:=htq.size;have HE:=hii (Bi.round_end (J:=((i:Int)-1+1).toNat) oM HZL1.o HFX.o HST.o.2 hoz HNO.o.2.1 HNO.o.2.2 (by rw[HQL.o];omega) oM oM HI.o);go_roundg i
     case measure=>omega
     case rel=>exact⟨(i:Int)-1,zs1,qs.set i qd,oM,oM,oM,rfl,by rw[HZL1.o];exact HZL.o,by rw[List.length_set];exact HQL.o,hoz1,hoq.set _ HG.o.lt,hii HE.o.1,hii HE.o.2,hownx2,hownq2,howny2,oM,hbr2⟩
    ·obtain rfl:qb=true:=HQB.o.2 rfl;obtain⟨ay,cy,ey,hcy,hUy⟩:=howny1.read;simp only[Value.slice.injEq]at ey;obtain⟨rfl,hz9,rfl⟩:=ey;clear hz9 hcy;go_wp2_with fail;have hsub:=zgK w1.heap.size w1.heap.size (u.length+1) (u.length+1) i (i+(k+2)+1-i) (u.length+1-i) zs1 ys (some ⟨w2.heap.size,0,none⟩) (k+2) w6 (by rw[HZL1.o,HZL.o];omega) oM (by rw[HYL.o];omega) hoz1 hoy hown1 hUy
      (by rintro b o h;simp only[Option.some.injEq,Addr.mk.injEq]at h;omega)
     rw[HYL.o]at hsub;(with_reducible refine hsub.mono ?_);clear hsub;rintro e w7⟨hS,htr⟩;rw[show i+(k+2)+1-i=k+3 by omega]at hS;obtain⟨zs2,ca,hzl2',hoz2,hca,rfl,HX2,HFX2,hown2⟩:=hS;have HZL2:Hid (zs2.length=zs.length):=hii (hzl2'.trans HZL1.o);have hzl4:zs.length<=zs2.length:=by rw[HZL2.o];exact nl
     have hownq2:=hownq1.touch htr oM;have howny2:=howny1.touch htr oM;have hbr2:=hbr1.trans (htr.below nl);have hsz7:w5.heap.size<=w7.heap.size:=by rw[htr.size];exact hsz6
     have HNO:=hii (Bi.sub_yes hq1 hq2 HQD.o HXD.o HYP2.o HS1.o (Bi.seg_lt (i:=i) (m:=k+3) hoz2 oM) hca HX1.o HX2.o);obtain⟨z',hz'⟩:=zal (l:=qs) (k:=i) (by rw[HQL.o];omega);have hcz:=hownq2.at' hz';have hfz:=hownq2.free i;have hg1:1<=g:=by have:=HNO.o.1;omega
     clear hz' hzl2' hownq1 howny1 hown1 htr hbr1 hUy;go_wp2;have hownq3:=hownq2.set i ((g:Int)-1) qd (by have:=HNO.o.1;omega);have htq:zbl w4.heap.size w7 (w7.setCell ⟨w4.heap.size,i,none⟩ (.int .u32 ((g:Int)-1))):=(zbl.refl w4.heap.size _).setCell (p:=⟨w4.heap.size,i,none⟩) rfl _;have hownx3:=hown2.touch htq oM;have howny3:=howny2.touch htq oM;have hbr3:=hbr2.setCell (p:=⟨w4.heap.size,i,none⟩) (by simp only;omega) (.int .u32 ((g:Int)-1));have hszf:=htq.size;have HE:=hii (Bi.round_end (J:=((i:Int)-1+1).toNat) oM HZL2.o (λj hj=>(HFX2.o j hj).trans (HFX.o j hj)) HST.o.2 hoz HNO.o.2.1 HNO.o.2.2 (by rw[HQL.o];omega) oM oM HI.o);go_roundg i
     case measure=>omega
     case rel=>exact⟨(i:Int)-1,zs2,qs.set i qd,oM,oM,oM,rfl,by rw[HZL2.o];exact HZL.o,by rw[List.length_set];exact HQL.o,hoz2,hoq.set _ HG.o.lt,hii HE.o.1,hii HE.o.2,hownx3,hownq3,howny3,oM,hbr3⟩
theorem zeF(m n:Nat)(u v:LN)(Hu:Hid (u=Bi.limbs m))(Hv:Hid (v=Bi.limbs n))(au av:OA)(cu cv:Nat)(w:Wo)(hmu:u.length<=100000000)(hmv:v.length<=100000000)(hn:0<n)
  (hu:U w au u)(hv:U w av v) :
  CP 162 #[.slice au u.length cu,.slice av v.length cv] w λe w'=>zoG w' m n e/\BH w w':=by
 rcases Nat.lt_or_ge m n with h|h
 ·exact zjY m n u v Hu Hv au av cu cv w oM oM (hii h) hu hv
 ·have hvu:v.length<=u.length:=by
   apply Nat.le_of_not_lt;intro h2
   rw[Hu.o,Hv.o]at h2;have:=Bi.val_lt_of_length h2;omega
  have hv0:v≠[]:=by intro h2;have:=Hv.o;rw[h2]at this;have:=Bi.limbs_eq_nil.1 this.symm;omega
  match hl:v,hv0 with
  |[x],_=>
   have hx:x=n:=by have:=congrArg Bi.val Hv.o;rw[Bi.val_limbs]at this;simpa [Bi.val]using this
   subst hx;have hx9:x<1000000000:=by have:=Bi.limbs_ok x;rw[<-Hv.o]at this;exact this.head
   exact ziH m x u Hu au av cu cv w oM hn hx9 (hii h) hu hv
  |x :: y :: r,_=>
   have:=ziI m n r.length u (x :: y :: r) Hu Hv au av cu cv w hmu sM (hii h) hu hv (by simpa using hvu)
   simpa using this
theorem zl6(w:Wo)(a b c d x y z u:Vl)(t:TypeId):∃wx,wx=(((w.alloc (.cells #[a,b] t)).alloc (.cells #[c,d] t)).alloc (.cells #[x,y] t)).alloc (.cells #[z,u] t)/\wx.heap.size=w.heap.size+1+1+1+1 /\
  Box wx w.heap.size a b/\Box wx (w.heap.size+1) c d/\Box wx (w.heap.size+1+1) x y/\Box wx (w.heap.size+1+1+1) z u/\BH w wx:=by
 obtain⟨wy,hwy,hsz,B1,B2,B3,hb⟩:=zbP w a b c d x y t;refine⟨_,rfl,sM,?_⟩;rw[<-hwy];refine⟨B1.mono (bA _ _),B2.mono (bA _ _),B3.mono (bA _ _),?_,hb.alloc hb.size _⟩;have:=Box.new wy z u t
 rwa [hsz]at this
theorem zlD(a:Vl)(x:Int)(w:Wo)(ha:zai w a x)(hE:Env w) :
  CP 119 #[a] w λe w'=>e=.returned (.int .i64 (zaB x))/\BH w w':=by
 obtain⟨n1,ao1,L1,c1,rfl,Hn1,HL1,HB1,hc1,hl1,hU1⟩:=ha;go_enter func119,ntmps119;go_wp2_with fail;have B1:=Box.new w (.bool n1) (.slice ao1 L1.length c1) 30;have hbx:=bA w (.cells #[.bool n1,.slice ao1 L1.length c1] 30);have hUx:=hU1.mono hbx;have hEx:=hE.mono hbx;clear hU1 hE;generalize w.alloc (.cells #[.bool n1,.slice ao1 L1.length c1] 30)=wx at*;(with_reducible refine(zb8 n1 L1 ao1 c1 wx ?_ hUx hEx).mono ?_)
 ·omega
 rintro e w1⟨⟨q,HQ,rfl⟩,hb1⟩;obtain rfl:q=true:=HQ.o.2 (zaC x n1 L1 Hn1.o HL1.o HB1.o);clear HQ;have hV:zai w1 (.agg #[.bool n1,.slice ao1 L1.length c1]) x:=⟨n1,ao1,L1,c1,rfl,Hn1,HL1,HB1,hc1,hl1,hUx.mono hb1⟩;obtain⟨p0,p1,_,_⟩:=B1.mono hb1;have hbw:=bu hbx hb1;clear hUx hEx;go_wp2_with fail;go_fit (zeX _ x w1 hV);rintro e w2⟨rfl,hb2⟩;go_wp2;go_ret;exact⟨rfl,bu hbw hb2⟩
def zdr(x y:Int):Int:=if x<y then -1 else if y<x then 1 else 0
theorem zhU(X Y:Nat):Nat.gcd Y (X % Y)=Nat.gcd X Y:=by rw[Nat.gcd_comm X Y,Nat.gcd_rec Y X,Nat.gcd_comm]
theorem zjO{X Y:Nat}(h1:X<Bi.Big)(h2:Y<Bi.Big):Nat.gcd X Y<Bi.Big:=by
 rcases Nat.eq_zero_or_pos X with h|h
 ·subst h;simpa using h2
 ·exact Nat.lt_of_le_of_lt (Nat.gcd_le_left _ h) h1
theorem znw(a b:Vl)(x y:Int)(w:Wo)(ha:zai w a x)(hb:zai w b y)(hE:Env w) :
  CP 122 #[a,b] w λe w'=>zfs w' ((Int.gcd x y:Nat):Int) e/\BH w w':=by
 obtain⟨n1,ao1,L1,c1,rfl,Hn1,HL1,HB1,hc1,hl1,hU1⟩:=ha;obtain⟨n2,ao2,L2,c2,rfl,Hn2,HL2,HB2,hc2,hl2,hU2⟩:=hb;go_enter func122,ntmps122;go_wp2_with fail;obtain⟨wx,hwx,hsz,B1,B2,B3,hbx⟩:=zbP w (.bool n1) (.slice ao1 L1.length c1) (.bool n2) (.slice ao2 L2.length c2) bF_ nS_ 30;rw[<-hwx];clear hwx;(with_reducible refine(zeK wx _ hsz n1 n2 ao1 ao2 L1 L2 c1 c2 (hU1.mono hbx) (hU2.mono hbx) ?_ ?_ (hE.mono hbx)).mono ?_)
 ·omega
 ·omega
 rintro e w1⟨⟨r,HR,HR2,rfl⟩,hb1'⟩;obtain rfl:r=0:=HR.o.2 ⟨zaC x n1 L1 Hn1.o HL1.o HB1.o,zaC y n2 L2 Hn2.o HL2.o HB2.o⟩;clear HR HR2;have B1:=B1.mono hb1';have B2:=B2.mono hb1';have B3:=B3.mono hb1';have hbw:=Below.step hbx hb1' nl;have hbd:=hbw.drew;have hX1:=hU1.mono hbd;have hX2:=hU2.mono hbd;have hEx:=hE.mono hbd;have D1:=B1.mono ((Below.refl w1.heap.size w1).drew);have D2:=B2.mono ((Below.refl w1.heap.size w1).drew);have D3:=B3.mono ((Below.refl w1.heap.size w1).drew);clear hU1 hU2 hE hsz;obtain⟨a0,a1,_,_⟩:=B1;obtain⟨b0,b1,_,_⟩:=B2;go_wp2_with fail;go_region_held3 (λw'=>w'.cell? ⟨w.heap.size,1,none⟩=some (.slice ao1 L1.length c1)/\w'.cell? ⟨w.heap.size+1,1,none⟩=some (.slice ao2 L2.length c2))
  (first|(with_reducible exact⟨a1,b1⟩)|(with_reducible exact⟨D1.c1,D2.c1⟩)|(with_reducible exact⟨E1.c1,E2.c1⟩)|(with_reducible exact⟨F1.c1,F2.c1⟩)|(simp[F1.c1,F2.c1,go_sem];done))
  (first
   |(go_at_call 161;((with_reducible refine(zd1 L1 ao1 c1 _ ?_ hX1).mono ?_);(omega));rintro e w2⟨⟨a3,c3,rfl,hc3,HU3⟩,hb2⟩;have E1:=D1.mono hb2;have E2:=D2.mono hb2;have E3:=D3.mono hb2;have hY2:=hX2.mono hb2)
   |(go_at_call 161;((with_reducible refine(zd1 L2 ao2 c2 _ ?_ hY2).mono ?_);(omega));rintro e w3⟨⟨a4,c4,rfl,hc4,HU4⟩,hb3⟩;have F1:=E1.mono hb3;have F2:=E2.mono hb3;have F3:=E3.mono hb3))
 go_wp2_with fail;have hbw3:BH w w3:=Below.step (bu hbd hb2) hb3 nl;have hU3:=HU3.o.mono hb3;have hU4:=HU4.o;have hE3:=(hEx.mono hb2).mono hb3;clear a0 a1 b0 b1 hX1 hX2 hEx hY2 D1 D2 D3 E1 E2 E3 F1 F2;go_loopg [7,8] (y.natAbs) (λgk s7 s8 wr=>∃(X Y:Nat)(L M:LN)(a5 a6:OA)(c5 c6:Nat),Y<=gk/\s7=.slice a5 L.length c5/\s8=.slice a6 M.length c6/\Hid (L=Bi.limbs X)/\Hid (M=Bi.limbs Y)/\Hid (Nat.gcd X Y=Int.gcd x y) /\
   Hid (X<Bi.Big/\Y<Bi.Big)/\L.length<=c5/\M.length<=c6/\U wr a5 L/\U wr a6 M/\BH w3 wr)
 case atStart=>exact⟨x.natAbs,y.natAbs,L1,L2,a3,a4,c3,c4,nl,rfl,rfl,HL1,HL2,hii rfl,hii ⟨HB1.o,HB2.o⟩,hc3,hc4,hU3,hU4,br⟩
 case round=>
  clear hU3 hU4;obtain⟨X,Y,L,M,a5,a6,c5,c6,hY,rfl,rfl,HL,HM,HG,HXY,hc5,hc6,hUL,hUM,hbr⟩:=hrel;have hl5:L.length<=34:=by rw[HL.o];exact zax HXY.o.1
  have hl6:M.length<=34:=by rw[HM.o];exact zax HXY.o.2
  by_cases hM0:M=[]
  ·have hY0:Y=0:=Bi.limbs_eq_nil.1 (by rw[<-HM.o];exact hM0);subst hM0;subst hY0;have hEr:=hE3.mono hbr;have hbr0:=bu hbw3 hbr;have F4:=F3.mono hbr;clear hUM hc6 hl6 hE3;go_wp2_with fail;(with_reducible refine(za9 false L a5 c5 wr ?_ hc5 hUL (hii ?_) hEr).mono ?_)
   ·omega
   ·rw[HL.o];exact eJ
   rintro e w5⟨⟨ng,ao3,n3,Y3,k3,rfl,HR⟩,hb5⟩;obtain⟨p0,p1,q0,q1⟩:=F4.mono hb5;go_wp2;refine bodyPost_ret (v:=.tuple #[.agg #[.bool ng,.slice ao3 n3 Y3],.int .i64 k3]) (by simp[results,Tryz.results122,go_sem,p0,p1]) rfl ⟨⟨ng,ao3,n3,Y3,k3,rfl,hii ?_⟩,?_⟩
   ·have:=HR.o.put2 p0 p1 (.bool ng) (.slice ao3 n3 Y3);rw[HL.o,Bi.val_limbs]at this;have e1:sgn false X=((Int.gcd x y:Nat):Int):=by rw[<-HG.o];simp[sgn]
    rw[e1]at this;exact this
   ·exact Below.put2 (bu hbr0 hb5) oM _ _
  ·have hM1:0<M.length:=List.length_pos_iff.2 hM0;have hY1:0<Y:=by
    rcases Nat.eq_zero_or_pos Y with h|h
    ·exact absurd (by rw[HM.o,h];rfl) hM0
    ·exact h
   clear hM0;go_wp2_with fail;(with_reducible refine(zeF X Y L M HL HM a5 a6 c5 c6 wr ?_ ?_ hY1 hUL hUM).mono ?_)
   ·omega
   ·omega
   rintro e w5⟨⟨a7,a8,Q,R,c7,c8,HQ,HR,hc7,hc8,rfl,HU7,HU8⟩,hb5⟩;have hUM5:=hUM.mono hb5;have hUR:=HU8.o;have hlt:=Nat.mod_lt X hY1;clear hUL hUM;go_wp2;go_roundg (X % Y)
   case measure=>omega
   case rel=>exact⟨Y,X % Y,M,R,a6,a8,c6,c8,nl,rfl,rfl,HM,HR,hii (by rw[<-HG.o];exact zhU X Y),hii ⟨HXY.o.2,Nat.lt_trans hlt HXY.o.2⟩,hc6,hc8,hUM5,hUR,bu hbr hb5⟩
def zpH(w':Wo)(z1 z2:Int)(e:Ending):Prop :=
 ∃(n1:Bool)(a1:OA)(m1 c1:Nat)(n2:Bool)(a2:OA)(m2 c2:Nat),e=.returned (.tuple #[.agg #[.bool n1,.slice a1 m1 c1],.agg #[.bool n2,.slice a2 m2 c2],.int .i64 0]) /\
  Hid (zai w' (.agg #[.bool n1,.slice a1 m1 c1]) z1)/\Hid (zai w' (.agg #[.bool n2,.slice a2 m2 c2]) z2)
theorem zhv(x y:Int)(n1 n2:Bool)(h1:n1=decide (x<0))(h2:n2=decide (y<0)):sgn (!(n1==n2)) (x.natAbs / y.natAbs)=x.tdiv y:=by
 have e1:=zbz x n1 h1;have e2:=zbz y n2 h2;rw[<-e1,<-e2,zar,zar];unfold sgn
 cases n1<;>cases n2<;>simp[Int.tdiv_neg,Int.neg_tdiv]
theorem zhu(x y:Int)(n1:Bool)(h1:n1=decide (x<0)):sgn n1 (x.natAbs % y.natAbs)=x.tmod y:=by
 have e1:=zbz x n1 h1;rw[<-e1,zar];unfold sgn;rcases Int.natAbs_eq y with h|h
 all_goals
  rw[h]
  cases n1<;>simp[Int.neg_tmod,Int.tmod_neg,<-Int.ofNat_tmod]
theorem zny(a b:Vl)(x y:Int)(w:Wo)(ha:zai w a x)(hb:zai w b y)(hy0:Hid (y≠0))(hE:Env w) :
  CP 170 #[a,b] w λe w'=>zpH w' (x.tdiv y) (x.tmod y) e/\BH w w':=by
 obtain⟨n1,ao1,L1,c1,rfl,Hn1,HL1,HB1,hc1,hl1,hU1⟩:=ha;obtain⟨n2,ao2,L2,c2,rfl,Hn2,HL2,HB2,hc2,hl2,hU2⟩:=hb;have hL2:0<L2.length:=by
  rcases Nat.eq_zero_or_pos L2.length with h|h
  ·have h2:=HL2.o;rw[List.length_eq_zero_iff.1 h]at h2;have:=Bi.limbs_eq_nil.1 h2.symm;have:=hy0.o;omega
  ·exact h
 have hLz:((L2.length:Int)==0)=false:=by rw[beq_eq_false_iff_ne];omega
 go_enter func170,ntmps170;go_wp2_with fail;obtain⟨wx,hwx,hsz,B1,B2,B3,B4,hbx⟩:=zl6 w (.bool n1) (.slice ao1 L1.length c1) (.bool n2) (.slice ao2 L2.length c2) bF_ nS_ bF_ nS_ 30;rw[<-hwx];clear hwx;(with_reducible refine(zeK wx _ hsz n1 n2 ao1 ao2 L1 L2 c1 c2 (hU1.mono hbx) (hU2.mono hbx) ?_ ?_ (hE.mono hbx)).mono ?_)
 ·omega
 ·omega
 rintro e w1⟨⟨r,HR,HR2,rfl⟩,hb1'⟩;obtain rfl:r=0:=HR.o.2 ⟨zaC x n1 L1 Hn1.o HL1.o HB1.o,zaC y n2 L2 Hn2.o HL2.o HB2.o⟩;clear HR HR2;have B1:=B1.mono hb1';have B2:=B2.mono hb1';have B3:=B3.mono hb1';have B4:=B4.mono hb1';have hbw:=Below.step hbx hb1' nl;have hE1:=hE.mono hbw;have hX1:=hU1.mono hbw;have hX2:=hU2.mono hbw;have hlt4:=B4.lt;clear hU1 hU2 hE hsz;obtain⟨a0,a1,_,_⟩:=B1;obtain⟨b0,b1,_,_⟩:=B2;go_wp2_with fail;(with_reducible refine(zeF x.natAbs y.natAbs L1 L2 HL1 HL2 ao1 ao2 c1 c2 w1 ?_ ?_ ?_ hX1 hX2).mono ?_)
 ·omega
 ·omega
 ·have:=hy0.o;omega
 rintro e w2⟨⟨a3,a4,Q,R,c3,c4,HQ,HR,hc3,hc4,rfl,HU3,HU4⟩,hb2⟩;have hq34:Q.length<=34:=by rw[HQ.o];exact zax (Nat.lt_of_le_of_lt (Nat.div_le_self _ _) HB1.o)
 have hr34:R.length<=34:=by rw[HR.o];exact zax (Nat.lt_of_le_of_lt (Nat.mod_le _ _) HB1.o)
 have a0:w2.cell? ⟨w.heap.size,0,none⟩=some (.bool n1):=(hb2.cell (p:=⟨w.heap.size,0,none⟩) (by simp only;omega)).trans a0;have b0:w2.cell? ⟨w.heap.size+1,0,none⟩=some (.bool n2):=(hb2.cell (p:=⟨w.heap.size+1,0,none⟩) (by simp only;omega)).trans b0;have B3:=B3.mono hb2;have B4:=B4.mono hb2;have hbw2:=bu hbw hb2;have hE2:=hE1.mono hb2;have hlt4:=B4.lt;clear a1 b1 hX1 hX2 hE1;go_wp2_with fail;(with_reducible refine(za9 (!(n1==n2)) Q a3 c3 w2 ?_ hc3 HU3.o (hii ?_) hE2).mono ?_)
 ·omega
 ·rw[HQ.o];exact eJ
 rintro e w3⟨⟨ng,ao3,n3,Y3,k3,rfl,HR3⟩,hb3⟩;have HV3:Hid (zai w3 (.agg #[.bool ng,.slice ao3 n3 Y3]) (x.tdiv y)):=hii (by
  have h:=HR3.o;have h1:Bi.val Q=x.natAbs / y.natAbs:=by rw[HQ.o,Bi.val_limbs]
  rw[h1,zhv x y n1 n2 Hn1.o Hn2.o]at h;rcases h with⟨_,_,h⟩|⟨h,_⟩
  ·exact h
  ·exact absurd (by rw[Int.natAbs_tdiv];exact Nat.lt_of_le_of_lt (Nat.div_le_self _ _) HB1.o) h)
 have a0:w3.cell? ⟨w.heap.size,0,none⟩=some (.bool n1):=(hb3.cell (p:=⟨w.heap.size,0,none⟩) (by simp only;omega)).trans a0;have B3:=B3.mono hb3;have B4:=B4.mono hb3;have hbw3:=bu hbw2 hb3;have hE3:=hE2.mono hb3;have hlt4:=B4.lt;have hU4:=HU4.o.mono hb3;clear b0 hE2 HR3;have hlt0:w.heap.size<w3.heap.size:=oM;go_wp2_with fail;have X1:=Box.new w3 (.bool ng) (.slice ao3 n3 Y3) 30;have hba:=bA w3 (.cells #[.bool ng,.slice ao3 n3 Y3] 30);have hsza:(w3.alloc (.cells #[.bool ng,.slice ao3 n3 Y3] 30)).heap.size=w3.heap.size+1:=sM;generalize w3.alloc (.cells #[.bool ng,.slice ao3 n3 Y3] 30)=w4 at*;have B3:=B3.mono hba;have B4:=B4.mono hba;have hbw4:=bu hbw3 hba;have hE4:=hE3.mono hba;have hU4:=hU4.mono hba;have HV4:=hii (HV3.o.mono hba);(with_reducible refine(za9 n1 R a4 c4 w4 ?_ hc4 hU4 (hii ?_) hE4).mono ?_)
 ·omega
 ·rw[HR.o];exact eJ
 rintro e w5⟨⟨J5,ao5,n5,Y5,k5,rfl,HR5⟩,hb5⟩;have HW5:Hid (zai w5 (.agg #[.bool J5,.slice ao5 n5 Y5]) (x.tmod y)):=hii (by
  have h:=HR5.o;have h1:Bi.val R=x.natAbs % y.natAbs:=by rw[HR.o,Bi.val_limbs]
  rw[h1,zhu x y n1 Hn1.o]at h;rcases h with⟨_,_,h⟩|⟨h,_⟩
  ·exact h
  ·exact absurd (by rw[Int.natAbs_tmod];exact Nat.lt_of_le_of_lt (Nat.mod_le _ _) HB1.o) h)
 have B3:=B3.mono hb5;have B4:=B4.mono hb5;have X1:=X1.mono hb5;have hbw5:=bu hbw4 hb5;have HV5:=hii (HV4.o.mono hb5);have hlt5:w3.heap.size<w5.heap.size:=by have:=hb5.size;omega
 clear a0 hE3 hE4 HR5 hU4 hlt0;go_upto_region 9 with fail;have X2:=Box.new w5 (.bool J5) (.slice ao5 n5 Y5) 30;have hba5:=bA w5 (.cells #[.bool J5,.slice ao5 n5 Y5] 30);have hszb:(w5.alloc (.cells #[.bool J5,.slice ao5 n5 Y5] 30)).heap.size=w5.heap.size+1:=sM;generalize w5.alloc (.cells #[.bool J5,.slice ao5 n5 Y5] 30)=w6 at*;have B3:=B3.mono hba5;have B4:=B4.mono hba5;have X1:=X1.mono hba5;have hbw6:=bu hbw5 hba5;have HV6:=hii (HV5.o.mono hba5);have HW6:=hii (HW5.o.mono hba5);have hlt3:=B4.lt;obtain⟨p0,p1,q0,q1⟩:=B3;obtain⟨r0,r1,s0,s1⟩:=B4;obtain⟨x0,x1,_,_⟩:=X1;obtain⟨y0,y1,_,_⟩:=X2;have hne1:w.heap.size+1+1<w3.heap.size:=oM;have hne2:w.heap.size+1+1+1<w3.heap.size:=oM;clear hsza hszb hbw3 hbw4 hbw5 hba hba5;go_region;go_wp2;have r0':∀u v,((w6.setCell ⟨w.heap.size+1+1,0,none⟩ u).setCell ⟨w.heap.size+1+1,1,none⟩ v).cell? ⟨w.heap.size+1+1+1,0,none⟩=some bF_:=λu v=>by
  rw[World.cell?_setCell_other _ _ _ _ sM,World.cell?_setCell_other _ _ _ _ sM];exact r0
 have r1':∀u v,((w6.setCell ⟨w.heap.size+1+1,0,none⟩ u).setCell ⟨w.heap.size+1+1,1,none⟩ v).cell? ⟨w.heap.size+1+1+1,1,none⟩=some nS_:=λu v=>by
  rw[World.cell?_setCell_other _ _ _ _ sM,World.cell?_setCell_other _ _ _ _ sM];exact r1
 have R0:=hii r0';have R1:=hii r1';clear r0' r1';refine bodyPost_ret (v:=.tuple #[.agg #[.bool ng,.slice ao3 n3 Y3],.agg #[.bool J5,.slice ao5 n5 Y5],.int .i64 0]) (by simp[results,Tryz.results170,go_sem,p0,p1,r0,r1]) rfl ⟨⟨ng,ao3,n3,Y3,J5,ao5,n5,Y5,rfl,hii ?_,hii ?_⟩,?_⟩
 ·exact((HV6.o.put2 p0 p1 _ _).put2 (R0.o _ _) (R1.o _ _) _ _).mono (br.drew)
 ·exact((HW6.o.put2 p0 p1 _ _).put2 (R0.o _ _) (R1.o _ _) _ _).mono (br.drew)
 ·exact(Below.put2 (Below.put2 hbw6 oM _ _) oM _ _).drew
end Go.Proofs.YtfgffkmddanjjaaGreatDoor
namespace Bi
theorem len_mono{a b:Nat}(h:a<=b):(limbs a).length<=(limbs b).length:=by
 apply Nat.le_of_not_lt
 intro h2;have:=val_lt_of_length h2;omega
theorem zm4{low n R:Nat}(h1:n*low<=R)(h2:R<n*(low+1)):low=R / n/\R-n*low=R % n:=by
 obtain⟨r,rfl⟩:∃r,R=n*low+r:=⟨R-n*low,oM⟩;rw[Nat.mul_add]at h2;have hn:0<n:=oM;have hr:r<n:=oM;rw[Nat.mul_add_div hn,Nat.div_eq_of_lt hr,Nat.mul_add_mod,Nat.mod_eq_of_lt hr];exact⟨oM,oM⟩
theorem zkU{q:LN}{i:Nat}(hi:i<q.length)(h0:q.getD i 0=0):q.set i 0=q:=by
 apply List.ext_getElem?
 intro j
 by_cases hj:i=j
 ·subst hj;rw[List.getElem?_set_self hi,gE hi];rw[List.getD_eq_getElem?_getD,gE hi]at h0;simp only[Option.getD_some]at h0;rw[h0]
 ·rw[List.getElem?_set_ne hj]
theorem rdiv_zero{u q:LN}{i v rest x J:Nat}(hv:0<v)(hi:i<u.length)(hql:q.length=u.length)(hx:u.getD i 0=x)(hJ:J=i+1)(hinv:val (q.drop J)*v+rest=val (u.drop J))(h0:q.getD i 0=0)(hlt:rest*1000000000+x<v){I:Nat}(hI:I=i) :
  val (q.drop I)*v+(rest*1000000000+x)=val (u.drop I):=by
 subst hJ hI;have:=short_step hv hi hql hx hinv
 rwa [Nat.div_eq_of_lt hlt,Nat.mod_eq_of_lt hlt,zkU oM h0]at this
theorem rdiv_step{u q:LN}{i v rest x J low:Nat}(hi:i<u.length)(hql:q.length=u.length)(hx:u.getD i 0=x)(hJ:J=i+1)(hinv:val (q.drop J)*v+rest=val (u.drop J))(h1:v*low<=rest*1000000000+x)(h2:rest*1000000000+x<v*(low+1)){I:Nat}(hI:I=i) :
  val ((q.set i low).drop I)*v+(rest*1000000000+x-v*low)=val (u.drop I)/\rest*1000000000+x-v*low<v:=by
 subst hJ hI;have hv:0<v:=by
  rcases Nat.eq_zero_or_pos v with h|h
  ·subst h;omega
  ·exact h
 have:=short_step hv hi hql hx hinv;obtain⟨e1,e2⟩:=zm4 h1 h2;rw[e2,e1];rw[e1]at e2;exact⟨this,Nat.mod_lt _ hv⟩
theorem val_cons9(x:Nat)(l:LN):val (x :: l)=val l*1000000000+x:=by simp[val];omega
end Bi
namespace Go.Proofs.YtfgffkmddanjjaaGreatDoor
open _root_.Go.Proofs.Tryz
open Go.RowKit
theorem za8.lit1(w:Wo)(Y:Int)(y:Nat)(hY:Y=(y:Int)):za8 (w.alloc (.cells #[.int .u32 Y] 128)) w.heap.size (.slice (some ⟨w.heap.size,0,none⟩) 1 1) [y]:=by
 subst hY;exact World.ownsRow_lit (base:=w.heap.size) (e:=128) (size:=1) w #[.int .u32 (y:Int)] 1 nl (by simp[maxLen]) sM
theorem zdL(a:LN)(n:Nat)(aoa:OA)(ca:Nat)(w:Wo)(hma:a.length<=1000000000)(hn:n<1000000000)(hoa:Bi.Ok a)(ha:U w aoa a) :
  CP 132 #[.slice aoa a.length ca,.int .u64 n,.int .i64 0] w λe w'=>∃ao L cap,L=Bi.limbs (Bi.val a*n)/\e=.returned (.slice ao L.length cap)/\L.length<=cap /\
   L.length<=a.length+1/\U w' ao L/\BH w w' :=
 (zeq a n 0 aoa ca w hma oM hn hoa ha).mono (by
  rintro e w'⟨ao,L,cap,hL,h1,h2,h3,h4⟩;exact⟨ao,L,cap,by rw[hL,Nat.pow_zero,Nat.one_mul],h1,h2,h3,h4⟩)
theorem zhy(m n : Nat)(u v : LN)(Hu : Hid (u = Bi.limbs m))(Hv : Hid (v = Bi.limbs n))(au av : OA)(cu cv : Nat)(w : Wo)(hmu : u.length≤100000000)(hmv : v.length≤100000000)(hn : 0<n)
    (hu : U w au u)(hv : U w av v) :
    CP 129 #[.slice au u.length cu, .slice av v.length cv] w fun e w'=>zoG w' m n e∧BH w w' := by
  have Hou : Hid (Bi.Ok u) := hii (by rw[Hu.o];exact Bi.limbs_ok _);have Hov : Hid (Bi.Ok v) := hii (by rw[Hv.o];exact Bi.limbs_ok _);have HVV : Hid (Bi.val v = n) := hii (by rw[Hv.o, Bi.val_limbs]);have HN := hii hn;clear hn;go_enter func129, ntmps129;go_wp2_with (at_make;refine za2 _ rfl _ _ rfl w w.heap.size _ _ u.length rfl rfl rfl rfl oM nl br ?_;intro w0 hown0 hb0);go_loopg [7, 8] (u.length) (fun gk s7 s8 wr=>∃(j : Int)(R : Nat)(rs qs : LN)(ar : OA)(cr : Nat), -1≤j∧j<(gk : Int)∧j<u.length∧s8 = .int .i64 j∧s7 = .slice ar rs.length cr∧rs.length≤cr∧Hid (rs = Bi.limbs R)∧Hid (R<n)∧
      Hid (Bi.val (qs.drop (j+1).toNat)*n+R = Bi.val (u.drop (j+1).toNat))∧Hid (∀t : Nat, (t : Int)≤j→qs.getD t 0 = 0)∧Bi.Ok qs∧za8 wr w.heap.size (.slice (some ⟨w.heap.size, 0, none⟩) u.length u.length) qs∧U wr ar rs∧BH w wr)
  case atStart=>
    refine⟨_, 0, [], _, none, 0, oM, oM, oM, rfl, rfl, nl, hii rfl, hii HN.o, hii ?_, hii ?_, Bi.Ok.replicate _, hown0, U.nil _ _, hb0⟩
    · rw[List.drop_eq_nil_of_le sM, List.drop_eq_nil_of_le oM];simp[Bi.val]
    · intro t _
      rw[List.getD_eq_getElem?_getD, List.getElem?_replicate]
      split<;>rfl
  case round=>
    obtain⟨j, R, rs, qs, ar, cr, hj1, hjg, hj2, rfl, rfl, hcr, HRS, HR, HI, HZ, hoq, hown, hUR, hbr⟩ := hrel;have HQ := hii hown.len.1.symm;clear hown0
    by_cases hj : j<0
    · obtain rfl : j = -1 := by omega
      clear hu hv;obtain⟨aq, cq, eq, hcq, hUq⟩ := hown.read;simp only[Value.slice.injEq]at eq;obtain⟨rfl, eq2, rfl⟩ := eq;clear eq2;go_wp2_with fail;have ht := zbI qs _ u.length wr (by rw[HQ.o];omega) hcq hUq;rw[HQ.o]at ht;(with_reducible refine ht.mono ?_);clear ht;rintro e w7⟨Q, hQ, hQl, rfl, hU7, rfl⟩;have HQQ : Hid (Q = Bi.limbs (Bi.val qs)) := hii (by rw[hQ, Bi.trim_eq_limbs hoq]);clear hQ;have h1 := HI.o;simp only[Int.reduceNeg, Int.reduceAdd, Int.toNat_zero, List.drop_zero]at h1;have h2 := Bi.short_end HR.o h1;have hmv : Bi.val u = m := by rw[Hu.o, Bi.val_limbs]
      rw[hmv]at h2;have HE := hii h2;clear h1 h2 hmv hown hcq;go_wp2;go_ret2;exact⟨⟨_, _, Q, rs, _, _, hii (by rw[HQQ.o, HE.o.1]), hii (by rw[HRS.o, HE.o.2]), hQl, hcr, rfl, hii hU7, hii hUR⟩, hbr⟩
    · obtain⟨i, rfl⟩ : ∃i : Nat, j = (i : Int) := ⟨j.toNat, oM⟩
      obtain⟨x, hx⟩ := zal (l := u) (k := i) oM;have bx := Hou.o.at' hx;obtain⟨b1, o1, rfl, hcx⟩ := (hu.mono hbr).at' hx;have HX := hii (Bi.getD_of hx);have hrl : rs.length≤v.length := by rw[HRS.o, Hv.o];exact Bi.len_mono (Nat.le_of_lt HR.o)
      have hvr := hv.mono hbr;have hown1 := za8.lit1 wr (x : Int) x rfl;have hURr := hUR.mono (bA wr (.cells #[.int .u32 (x : Int)] 128));clear hx;go_wp2_with (at_builtin;refine zcH _ rfl _ _ rfl wr wr.heap.size _ [x] rfl hown1 sM (bA wr _) ar cr rs rfl hURr (by simp;omega) ?_;intro v' w1 hown2 hb1);obtain⟨a2, c2, rfl, hc2, hU2⟩ := hown2.read;have HAB := hii hown2.above;have hszw := hown.len.2.2.2;have hown3 := hown.kept hb1 nl;have hvr1 := hvr.mono hb1;have hbr1 := bu hbr hb1;have hol : Bi.Ok (x :: rs) := Bi.Ok.cons bx (by rw[HRS.o];exact Bi.limbs_ok _);clear hown2 hown hvr hURr hUR hown1 hcx;simp only[List.singleton_append]at hc2 hU2 ⊢;(with_reducible refine(zbI (x :: rs) a2 c2 w1 ?_ hc2 hU2).mono ?_)
      · simp;omega
      rintro e w2⟨L, hL, hLl, rfl, hUL, rfl⟩;obtain⟨R1, hR1⟩ : ∃R1, R1 = R*1000000000+x := ⟨_, rfl⟩;have HL : Hid (L = Bi.limbs R1) := hii (by
        rw[hL, Bi.trim_eq_limbs hol, Bi.val_cons9, hR1];have : Bi.val rs = R := by rw[HRS.o, Bi.val_limbs]
        rw[this])
      have HR1 := hii hR1;have hLl' : L.length≤100000001 := by simp at hLl;omega
      have hLc : L.length≤c2 := Nat.le_trans hLl hc2;clear hL hR1 hLl hol hU2;go_wp2_with fail;(with_reducible refine(zcW R1 n L v HL Hv a2 _ c2 cv w1 ?_ ?_ hUL hvr1).mono ?_)
      · omega
      · omega
      rintro e w2⟨rfl, hb2⟩;have hown4 := hown3.kept hb2 nl;have hvr2 := hvr1.mono hb2;have hUL2 := hUL.mono hb2;have hbr2 := bu hbr1 hb2;clear hown3 hvr1 hUL
      by_cases hlt : R1<n
      · have hcmp : zbm R1 n<0 := by unfold zbm;rw[if_pos hlt];decide
        have HLT := hii hlt;have HE := hii (Bi.rdiv_zero (J := ((i : Int)+1).toNat) HN.o oM HQ.o HX.o oM HI.o (HZ.o i oM) (by rw[← HR1.o];exact hlt) (I := ((i : Int)-1+1).toNat) oM);rw[← HR1.o]at HE;clear hlt hu hv hvr2;go_wp2;go_roundg i
        case measure=>omega
        case rel=>exact⟨(i : Int)-1, R1, L, qs, a2, c2, oM, oM, oM, rfl, rfl, hLc, HL, HLT, HE, hii (fun t ht=>HZ.o t oM), hoq, hown4, hUL2, hbr2⟩
      · have hcmp : ¬zbm R1 n<0 := by unfold zbm;rw[if_neg hlt];split<;>omega
        have HLE : Hid (n*1≤R1) := hii oM;have HTT : Hid (R1<n*1000000000) := hii (by
          have h1 := HR.o;have h2 := HR1.o;have : (R+1)*1000000000≤n*1000000000 := Nat.mul_le_mul_right _ h1;omega)
        clear hlt hu;go_wp2_with fail;obtain⟨wo, rfl⟩ := exi w2;go_loopw [9, 10] (fun s9 s10 wi=>∃lo hi : Nat, s9 = .int .u64 lo∧s10 = .int .u64 hi∧1≤lo∧lo<hi∧hi≤1000000000∧Hid (n*lo≤R1)∧Hid (R1<n*hi)∧BH wo wi) (fun s9 s10 _=>(intOf s10-intOf s9).toNat)
        case atStart=>exact⟨1, 1000000000, rfl, rfl, oM, oM, oM, HLE, HTT, br⟩
        case round=>
          obtain⟨lo, hi, rfl, rfl, h1, h2, h3, HLO, HHI, hbi⟩ := hrel
          by_cases hgo : (1 : Int)<(hi : Int)-lo
          · obtain⟨md, hmd⟩ : ∃md, md = (lo+hi) / 2 := ⟨_, rfl⟩
            have hmd1 : lo<md := by omega
            have hmd2 : md<hi := by omega
            have hmd' : ((lo : Int)+hi) / 2 = (md : Int) := by omega
            have hvi := hvr2.mono hbi;have hLi := hUL2.mono hbi;clear hmd hvr2 hUL2;go_wp2_with fail;(with_reducible refine(zdL v md _ _ _ ?_ ?_ Hov.o hvi).mono ?_)
            · omega
            · omega
            rintro e w3⟨a3, L3, c3, hL3, rfl, hc3, hl3, hU3, hb3⟩;have HL3 : Hid (L3 = Bi.limbs (n*md)) := hii (by rw[hL3, HVV.o]);have hL4 := hLi.mono hb3;clear hL3 hvi hLi;go_wp2_with fail;(with_reducible refine(zcW (n*md) R1 L3 L HL3 HL _ _ _ _ w3 ?_ ?_ hU3 hL4).mono ?_)
            · omega
            · omega
            rintro e w4⟨rfl, hb4⟩;have hbf := Below.step (bu hbi hb3) hb4 nl;clear hU3 hL4
            by_cases hc : n*md≤R1
            · have hcmp2 : zbm (n*md) R1≤0 := by unfold zbm;split;· omega
                                                 · rw[if_neg oM];omega
              have HC := hii hc;clear hc;go_wp2;go_roundw
              case rel=>exact⟨md, hi, rfl, rfl, oM, oM, oM, HC, HHI, hbf⟩
              case measure=>(simp[intOf];try omega)
            · have hcmp2 : ¬zbm (n*md) R1≤0 := by unfold zbm;rw[if_neg oM, if_pos oM];omega
              have HC : Hid (R1<n*md) := hii oM;clear hc;go_wp2;go_roundw
              case rel=>exact⟨lo, md, rfl, rfl, oM, oM, oM, HLO, HC, hbf⟩
              case measure=>(simp[intOf];try omega)
          · obtain rfl : hi = lo+1 := by omega
            have hown5 := hown4.kept hbi nl;have hLi := hUL2.mono hbi;have hbri := bu hbr2 hbi;obtain⟨z, hz⟩ := zal (l := qs) (k := i) (by rw[HQ.o];omega);have hcz := hown5.at' hz;have hfz := hown5.free i;have hlo : lo<1000000000 := by omega
            have HE := hii (Bi.rdiv_step (J := ((i : Int)+1).toNat) (low := lo) oM HQ.o HX.o oM HI.o (by rw[← HR1.o];exact HLO.o) (by rw[← HR1.o];exact HHI.o) (I := ((i : Int)-1+1).toNat) oM);rw[← HR1.o]at HE;have hown6 := hown5.set i (lo : Int) lo rfl;have htq : zbl w.heap.size wr (wr.setCell ⟨w.heap.size, i, none⟩ (.int .u32 (lo : Int))) := (zbl.refl w.heap.size _).setCell (p := ⟨w.heap.size, i, none⟩) rfl _;have hLt := hLi.touch htq (fun b off e=>by have := HAB.o b off e;omega);have hbr6 := hbri.setCell (p := ⟨w.heap.size, i, none⟩) nl (.int .u32 (lo : Int));have hv6 := hv.mono hbr6;clear hz hvr2 hUL2 hown4 hown5 hLi htq;go_upto_region 15 with fail;generalize wr.setCell ⟨w.heap.size, i, none⟩ (.int .u32 (lo : Int)) = w5 at*;clear hcz hfz;go_wp2_with fail;(with_reducible refine(zdL v lo _ _ _ ?_ hlo Hov.o hv6).mono ?_)
            · omega
            rintro e w6⟨a3, L3, c3, hL3, rfl, hc3, hl3, hU3, hb3⟩;have HL3 : Hid (L3 = Bi.limbs (n*lo)) := hii (by rw[hL3, HVV.o]);have hL4 := hLt.mono hb3;have hown7 := hown6.kept hb3 nl;have hbr7 := bu hbr6 hb3;have hvL : Hid (Bi.val L = R1) := hii (by rw[HL.o, Bi.val_limbs]);have hvL3 : Hid (Bi.val L3 = n*lo) := hii (by rw[HL3.o, Bi.val_limbs]);have hl34 : L3.length≤L.length := by rw[HL3.o, HL.o];exact Bi.len_mono HLO.o
            clear hL3 hLt hv6;go_wp2_with fail;(with_reducible refine(ze0 L L3 _ _ _ _ w6 ?_ hl34 (hii ?_) ?_ ?_ hL4 hU3).mono ?_)
            · omega
            · rw[hvL.o, hvL3.o];exact HLO.o
            · rw[HL.o];exact eJ
            · rw[HL3.o];exact eJ
            rintro e w7⟨a8, L8, c8, hL8, rfl, hc8, hl8, hU8, hb8⟩;have HL8 : Hid (L8 = Bi.limbs (R1-n*lo)) := hii (by rw[hL8, hvL.o, hvL3.o]);have hown8 := hown7.kept hb8 nl;have hbr8 := bu hbr7 hb8;clear hL8 hown7 hL4 hU3;go_wp2;go_roundg i
            case measure=>omega
            case rel=>exact⟨(i : Int)-1, R1-n*lo, L8, qs.set i lo, a8, c8, oM, oM, oM, rfl, rfl, hc8, HL8, hii HE.o.2, hii HE.o.1, hii (fun t ht=>by
              rw[List.getD_eq_getElem?_getD, List.getElem?_set_ne oM, ← List.getD_eq_getElem?_getD];exact HZ.o t oM), hoq.set _ hlo, hown8, hU8, hbr8⟩
theorem zm3(m n:Nat):-1<=zbm m n/\zbm m n<=1:=by unfold zbm;split<;>(try split)<;>omega
theorem zmZ(x y:Int):-1<=zdr x y/\zdr x y<=1:=by unfold zdr;split<;>(try split)<;>omega
theorem zh1{x y:Int}(h:zaB x≠zaB y):zdr x y=if zaB x<zaB y then -1 else 1:=by
 unfold zaB zdr at*
 by_cases h1:x=0<;>by_cases h2:y=0<;>by_cases h3:x<0<;>by_cases h4:y<0<;>by_cases h5:x<y<;>by_cases h6:y<x<;>simp[h1,h2,h3,h4,h5,h6]at h|-<;>omega
theorem zgj{x y:Int}(h:zaB x=zaB y):zdr x y=if x<0 then-zbm x.natAbs y.natAbs else zbm x.natAbs y.natAbs:=by
 have h0:(x=0↔y=0)/\(x<0↔y<0):=by
  unfold zaB at h
  by_cases h1:x=0<;>by_cases h2:y=0<;>by_cases h3:x<0<;>by_cases h4:y<0<;>simp[h1,h2,h3,h4]at h|-
 unfold zdr zbm
 by_cases h3:x<0
 ·rw[if_pos h3]
  by_cases h5:x<y
  ·rw[if_pos h5,if_neg oM,if_pos oM]
  ·rw[if_neg h5]
   by_cases h6:y<x
   ·rw[if_pos h6,if_pos oM];rfl
   ·rw[if_neg h6,if_neg oM,if_neg oM];rfl
 ·rw[if_neg h3]
  by_cases h5:x<y
  ·rw[if_pos h5,if_pos oM]
  ·rw[if_neg h5]
   by_cases h6:y<x
   ·rw[if_pos h6,if_neg oM,if_pos oM]
   ·rw[if_neg h6,if_neg oM,if_neg oM]
theorem zls{x y:Int}(h:zaB x=zaB y):zaB x*zbm x.natAbs y.natAbs=zdr x y:=by
 rw[zgj h]
 by_cases h1:x=0
 ·have h2:y=0:=by
   subst h1;unfold zaB at h
   by_cases h2:y=0
   ·exact h2
   ·by_cases h4:y<0<;>simp[h2,h4]at h
  subst h1 h2;decide
 ·unfold zaB
  by_cases h3:x<0<;>simp[h1,h3]
theorem znz(a b:Vl)(x y:Int)(w:Wo)(ha:zai w a x)(hb:zai w b y)(hE:Env w) :
  CP 97 #[a,b] w λe w'=>e=.returned (.int .i64 (zdr x y))/\BH w w':=by
 obtain⟨n1,ao1,L1,c1,rfl,Hn1,HL1,HB1,hc1,hl1,hU1⟩:=ha;obtain⟨n2,ao2,L2,c2,rfl,Hn2,HL2,HB2,hc2,hl2,hU2⟩:=hb;go_enter func97,ntmps97;go_wp2_with fail;obtain⟨wx,hwx,hsz,B1,B2,hbx⟩:=zh5 w (.bool n1) (.slice ao1 L1.length c1) (.bool n2) (.slice ao2 L2.length c2) 30;rw[<-hwx];clear hwx;(with_reducible refine(zeK wx _ hsz n1 n2 ao1 ao2 L1 L2 c1 c2 (hU1.mono hbx) (hU2.mono hbx) ?_ ?_ (hE.mono hbx)).mono ?_)
 ·omega
 ·omega
 rintro e w1⟨⟨r,HR,HR2,rfl⟩,hb1'⟩;obtain rfl:r=0:=HR.o.2 ⟨zaC x n1 L1 Hn1.o HL1.o HB1.o,zaC y n2 L2 Hn2.o HL2.o HB2.o⟩;clear HR HR2;have B1:=B1.mono hb1';have B2:=B2.mono hb1';have hbw:=Below.step hbx hb1' nl;have hbd:=hbw.drew;have D1:=B1.mono ((Below.refl w1.heap.size w1).drew);have D2:=B2.mono ((Below.refl w1.heap.size w1).drew);have hX1:=hU1.mono hbd;have hX2:=hU2.mono hbd;have hV1:zai w1.drew (.agg #[.bool n1,.slice ao1 L1.length c1]) x:=⟨n1,ao1,L1,c1,rfl,Hn1,HL1,HB1,hc1,hl1,hX1⟩;have hV2:zai w1.drew (.agg #[.bool n2,.slice ao2 L2.length c2]) y:=⟨n2,ao2,L2,c2,rfl,Hn2,HL2,HB2,hc2,hl2,hX2⟩;clear hU1 hU2 hE hsz;obtain⟨a0,a1,_,_⟩:=B1;obtain⟨b0,b1,_,_⟩:=B2;go_wp2_with fail;go_region_held3 (λw'=>w'.cell? ⟨w.heap.size,0,none⟩=some (.bool n1)/\w'.cell? ⟨w.heap.size,1,none⟩=some (.slice ao1 L1.length c1)/\w'.cell? ⟨w.heap.size+1,0,none⟩=some (.bool n2)/\w'.cell? ⟨w.heap.size+1,1,none⟩=some (.slice ao2 L2.length c2))
  (first|(with_reducible exact⟨a0,a1,b0,b1⟩)|(with_reducible exact⟨D1.c0,D1.c1,D2.c0,D2.c1⟩)|(with_reducible exact⟨E1.c0,E1.c1,E2.c0,E2.c1⟩)|(with_reducible exact⟨F1.c0,F1.c1,F2.c0,F2.c1⟩)|(simp[F1.c0,F1.c1,F2.c0,F2.c1,go_sem];done))
  (first
   |(go_at_call 141;go_fit (zeX _ x _ hV1);rintro e w2⟨rfl,hb2⟩;have E1:=D1.mono hb2;have E2:=D2.mono hb2;have hW2:=hV2.mono hb2)
   |(go_at_call 141;go_fit (zeX _ y _ hW2);rintro e w3⟨rfl,hb3⟩;have F1:=E1.mono hb3;have F2:=E2.mono hb3))
 have hbw3:=Below.step (bu hbd hb2) hb3 nl;have hY1:=(hX1.mono hb2).mono hb3;have hY2:=(hX2.mono hb2).mono hb3;clear hX1 hX2 hV1 hV2 hW2 a0 a1 b0 b1 D1 D2 E1 E2;obtain⟨a0,a1,_,_⟩:=F1;obtain⟨b0,b1,_,_⟩:=F2
 by_cases hs:zaB x=zaB y
 ·have hsb:(zaB x != zaB y)=false:=by rw[bne_eq_false_iff_eq];exact hs
  have HC:=hii (zgj hs);clear hs;go_wp2_with fail;(with_reducible refine(zbj x.natAbs y.natAbs L1 L2 HL1 HL2 ao1 ao2 c1 c2 w3 ?_ ?_ hY1 hY2).mono ?_)
  ·omega
  ·omega
  rintro e w4⟨rfl,hb4⟩;have hcb:=zm3 x.natAbs y.natAbs;have a0:w4.cell? ⟨w.heap.size,0,none⟩=some (.bool n1):=(hb4.cell (p:=⟨w.heap.size,0,none⟩) (zaf a0)).trans a0;have hbw4:=bu hbw3 hb4;obtain⟨hcb1,hcb2⟩:=hcb;clear hY1 hY2 a1 b0 b1
  cases n1
  ·have hx:¬x<0:=by have:=Hn1.o;simpa using this
   have HR:Hid (zdr x y=zbm x.natAbs y.natAbs):=hii (by rw[HC.o,if_neg hx]);clear hx;go_wp2;go_ret;exact⟨zaG HR.o.symm,hbw4⟩
  ·have hx:x<0:=by have:=Hn1.o;simpa using this
   have HR:Hid (zdr x y=- zbm x.natAbs y.natAbs):=hii (by rw[HC.o,if_pos hx]);clear hx;go_wp2;go_ret;exact⟨zaG HR.o.symm,hbw4⟩
 ·have hsb:(zaB x != zaB y)=true:=by rw[bne_iff_ne];exact hs
  have HC:=hii (zh1 hs);clear hs
  by_cases hlt:zaB x<zaB y
  ·have HR:Hid (zdr x y=-1):=hii (by rw[HC.o,if_pos hlt]);go_wp2;go_ret;exact⟨zaG HR.o.symm,hbw3⟩
  ·have HR:Hid (zdr x y=1):=hii (by rw[HC.o,if_neg hlt]);go_wp2;go_ret;exact⟨zaG HR.o.symm,hbw3⟩
theorem zk3(a b:Vl)(x y:Int)(w:Wo)(ha:zai w a x)(hb:zai w b y) :
  CP 54 #[a,b] w λe w'=>e=.returned (.int .i64 (zdr x y))/\BH w w':=by
 obtain⟨n1,ao1,L1,c1,rfl,Hn1,HL1,HB1,hc1,hl1,hU1⟩:=ha;obtain⟨n2,ao2,L2,c2,rfl,Hn2,HL2,HB2,hc2,hl2,hU2⟩:=hb;go_enter func54,ntmps54;go_wp2_with fail;obtain⟨wx,hwx,hsz,B1,B2,hbx⟩:=zh5 w (.bool n1) (.slice ao1 L1.length c1) (.bool n2) (.slice ao2 L2.length c2) 30;rw[<-hwx];clear hwx;have hbd:=hbx.drew;have D1:=B1.mono ((Below.refl wx.heap.size wx).drew);have D2:=B2.mono ((Below.refl wx.heap.size wx).drew);have hX1:=hU1.mono hbd;have hX2:=hU2.mono hbd;have hV1:zai wx.drew (.agg #[.bool n1,.slice ao1 L1.length c1]) x:=⟨n1,ao1,L1,c1,rfl,Hn1,HL1,HB1,hc1,hl1,hX1⟩;have hV2:zai wx.drew (.agg #[.bool n2,.slice ao2 L2.length c2]) y:=⟨n2,ao2,L2,c2,rfl,Hn2,HL2,HB2,hc2,hl2,hX2⟩;clear hU1 hU2 hsz;obtain⟨a0,a1,_,_⟩:=B1;obtain⟨b0,b1,_,_⟩:=B2;go_region_held3 (λw'=>w'.cell? ⟨w.heap.size,0,none⟩=some (.bool n1)/\w'.cell? ⟨w.heap.size,1,none⟩=some (.slice ao1 L1.length c1)/\w'.cell? ⟨w.heap.size+1,0,none⟩=some (.bool n2)/\w'.cell? ⟨w.heap.size+1,1,none⟩=some (.slice ao2 L2.length c2))
  (first|(with_reducible exact⟨a0,a1,b0,b1⟩)|(with_reducible exact⟨D1.c0,D1.c1,D2.c0,D2.c1⟩)|(with_reducible exact⟨E1.c0,E1.c1,E2.c0,E2.c1⟩)|(with_reducible exact⟨F1.c0,F1.c1,F2.c0,F2.c1⟩)|(simp[F1.c0,F1.c1,F2.c0,F2.c1,go_sem];done))
  (first
   |(go_at_call 78;go_fit (zcg _ x _ hV1);rintro e w2⟨rfl,hb2⟩;have E1:=D1.mono hb2;have E2:=D2.mono hb2;have hW2:=hV2.mono hb2)
   |(go_at_call 78;go_fit (zcg _ y _ hW2);rintro e w3⟨rfl,hb3⟩;have F1:=E1.mono hb3;have F2:=E2.mono hb3))
 have hbw3:=Below.step (bu hbd hb2) hb3 nl;have hV1:=(hV1.mono hb2).mono hb3;have hV2:=hW2.mono hb3;have hY1:=(hX1.mono hb2).mono hb3;have hY2:=(hX2.mono hb2).mono hb3;clear hX1 hX2 a0 a1 b0 b1 D1 D2 E1 E2 hW2 hb2 hb3 hbd hbx;have hbd3:=hbw3.drew;have D1:=F1.mono ((Below.refl w3.heap.size w3).drew);have D2:=F2.mono ((Below.refl w3.heap.size w3).drew);have hV1:=hV1.mono ((Below.refl w3.heap.size w3).drew);have hV2:=hV2.mono ((Below.refl w3.heap.size w3).drew);have hY1:=hY1.mono ((Below.refl w3.heap.size w3).drew);have hY2:=hY2.mono ((Below.refl w3.heap.size w3).drew);obtain⟨a0,a1,_,_⟩:=F1;obtain⟨b0,b1,_,_⟩:=F2
 by_cases hs:zaB x=zaB y
 ·have hsb:(zaB x != zaB y)=false:=by rw[bne_eq_false_iff_eq];exact hs
  have hwr:IntKind.i64.wrap (zaB x*zbm x.natAbs y.natAbs)=zdr x y:=by
   rw[zls hs];have:=zmZ x y;exact IntWalk.i64_in _ oM
  clear hs;go_wp2_with fail;go_region_held3 (λw'=>w'.cell? ⟨w.heap.size,0,none⟩=some (.bool n1)/\w'.cell? ⟨w.heap.size,1,none⟩=some (.slice ao1 L1.length c1)/\w'.cell? ⟨w.heap.size+1,0,none⟩=some (.bool n2)/\w'.cell? ⟨w.heap.size+1,1,none⟩=some (.slice ao2 L2.length c2))
   (first|(with_reducible exact⟨a0,a1,b0,b1⟩)|(with_reducible exact⟨D1.c0,D1.c1,D2.c0,D2.c1⟩)|(with_reducible exact⟨E1.c0,E1.c1,E2.c0,E2.c1⟩)|(with_reducible exact⟨F1.c0,F1.c1,F2.c0,F2.c1⟩)|(simp[F1.c0,F1.c1,F2.c0,F2.c1,go_sem];done))
   (first
    |(go_at_call 78;go_fit (zcg _ x _ hV1);rintro e w2⟨rfl,hb2⟩;have E1:=D1.mono hb2;have E2:=D2.mono hb2;have hZ1:=hY1.mono hb2;have hZ2:=hY2.mono hb2)
    |(go_at_call 100;((with_reducible refine(zcW x.natAbs y.natAbs L1 L2 HL1 HL2 _ _ _ _ _ ?_ ?_ hZ1 hZ2).mono ?_);(omega);(omega));rintro e w4⟨rfl,hb4⟩;have F1:=E1.mono hb4;have F2:=E2.mono hb4))
  go_wp2;go_ret;exact⟨rfl,Below.step (bu hbd3 hb2) hb4 nl⟩
 ·have hsb:(zaB x != zaB y)=true:=by rw[bne_iff_ne];exact hs
  have HC:=hii (zh1 hs);clear hs hY1 hY2;go_wp2_with fail;go_region_held3 (λw'=>w'.cell? ⟨w.heap.size,0,none⟩=some (.bool n1)/\w'.cell? ⟨w.heap.size,1,none⟩=some (.slice ao1 L1.length c1)/\w'.cell? ⟨w.heap.size+1,0,none⟩=some (.bool n2)/\w'.cell? ⟨w.heap.size+1,1,none⟩=some (.slice ao2 L2.length c2))
   (first|(with_reducible exact⟨a0,a1,b0,b1⟩)|(with_reducible exact⟨D1.c0,D1.c1,D2.c0,D2.c1⟩)|(with_reducible exact⟨E1.c0,E1.c1,E2.c0,E2.c1⟩)|(with_reducible exact⟨F1.c0,F1.c1,F2.c0,F2.c1⟩)|(simp[F1.c0,F1.c1,F2.c0,F2.c1,go_sem];done))
   (first
    |(go_at_call 78;go_fit (zcg _ x _ hV1);rintro e w2⟨rfl,hb2⟩;have E1:=D1.mono hb2;have E2:=D2.mono hb2;have hW2:=hV2.mono hb2)
    |(go_at_call 78;go_fit (zcg _ y _ hW2);rintro e w4⟨rfl,hb4⟩;have F1:=E1.mono hb4;have F2:=E2.mono hb4))
  have hbf:=Below.step (bu hbd3 hb2) hb4 nl
  by_cases hlt:zaB x<zaB y
  ·have HR:Hid (zdr x y=-1):=hii (by rw[HC.o,if_pos hlt]);go_wp2;go_ret;exact⟨zaG HR.o.symm,hbf⟩
  ·have HR:Hid (zdr x y=1):=hii (by rw[HC.o,if_neg hlt]);go_wp2;go_ret;exact⟨zaG HR.o.symm,hbf⟩
theorem zjw(n:Bool)(m1 m2:Nat)(ao1 ao2:OA)(L1 L2:LN)(c1 c2:Nat)(w:Wo)(HL1:Hid (L1=Bi.limbs m1))(HL2:Hid (L2=Bi.limbs m2))(hl1:L1.length<=34)(hl2:L2.length<=34)
  (hU1:U w ao1 L1)(hU2:U w ao2 L2) :
  CP 99 #[.agg #[.bool n,.slice ao1 L1.length c1],.agg #[.bool n,.slice ao2 L2.length c2]] w λe w'=>zfs w' (sgn n m1+sgn n m2) e/\BH w w':=by
 have hnn:(n==n)=true:=sM;have Ho1:Hid (Bi.Ok L1):=hii (by rw[HL1.o];exact Bi.limbs_ok _);have Ho2:Hid (Bi.Ok L2):=hii (by rw[HL2.o];exact Bi.limbs_ok _);have hvl:Hid (Bi.val L1=m1/\Bi.val L2=m2):=hii (by rw[HL1.o,HL2.o,Bi.val_limbs,Bi.val_limbs];exact⟨rfl,rfl⟩);go_enter func99,ntmps99;go_wp2_with fail;obtain⟨wx,hwx,hsz,B1,B2,B3,hbx⟩:=zbP w (.bool n) (.slice ao1 L1.length c1) (.bool n) (.slice ao2 L2.length c2) bF_ nS_ 30;rw[<-hwx];clear hwx;obtain⟨w0,rfl⟩:=exi wx;have hb0':=hbx;have hbd:Below w.heap.size w w0.drew:=hb0'.drew;have hX1:=hU1.mono hbd;have hX2:=hU2.mono hbd;have D1:=B1.mono ((Below.refl w0.heap.size w0).drew);have D2:=B2.mono ((Below.refl w0.heap.size w0).drew);have D3:=B3.mono ((Below.refl w0.heap.size w0).drew);obtain⟨z0,z1,_,_⟩:=B1;obtain⟨y0,y1,_,_⟩:=B2;clear hU1 hU2;go_wp2_with fail;go_region_held3 (λw'=>w'.cell? ⟨w.heap.size,0,none⟩=some (.bool n)/\w'.cell? ⟨w.heap.size,1,none⟩=some (.slice ao1 L1.length c1)/\w'.cell? ⟨w.heap.size+1,1,none⟩=some (.slice ao2 L2.length c2))
  (first|(with_reducible exact⟨z0,z1,y1⟩)|(with_reducible exact⟨D1.c0,D1.c1,D2.c1⟩)|(with_reducible exact⟨E1.c0,E1.c1,E2.c1⟩)|(with_reducible exact⟨F1.c0,F1.c1,F2.c1⟩)|(simp[F1.c0,F1.c1,F2.c1,go_sem];done))
  (first
   |(go_at_call 131;((with_reducible refine(zhz L1 L2 _ _ _ _ _ ?_ ?_ Ho1.o Ho2.o hX1 hX2).mono ?_);(omega);(omega));rintro e w1⟨ao,L,cap,hL,rfl,hcap,hlL,hUL,hb1⟩;have HL:=hii hL;clear hL;have E1:=D1.mono hb1;have E2:=D2.mono hb1;have E3:=D3.mono hb1)
   |(go_at_call 80;((with_reducible refine(zbe n _ _ _ _ ?_ hUL (hii ?_)).mono ?_);(omega);(rw[HL.o];exact Bi.limbs_ok _));rintro e w2⟨⟨ng,ao3,n3,Y3,k3,rfl,HR⟩,hb2⟩;have F1:=E1.mono hb2;have F2:=E2.mono hb2;obtain⟨p0,p1,q0,q1⟩:=E3.mono hb2))
 go_wp2;refine bodyPost_ret (v:=.tuple #[.agg #[.bool ng,.slice ao3 n3 Y3],.int .i64 k3]) (by simp[results,Tryz.results99,go_sem,p0,p1]) rfl ⟨⟨ng,ao3,n3,Y3,k3,rfl,hii ?_⟩,?_⟩
 ·have:=HR.o.put2 p0 p1 (.bool ng) (.slice ao3 n3 Y3);rw[HL.o,Bi.val_limbs,hvl.o.1,hvl.o.2]at this;rw[zjf]at this;exact this
 ·exact Below.put2 (Below.step (bu hbd hb1) hb2 nl) oM _ _
theorem zmC(n1 n2:Bool)(hnn:(n1==n2)=false)(m1 m2:Nat)(hle:Hid (m2<=m1))(ao1 ao2:OA)(L1 L2:LN)(c1 c2:Nat)(w:Wo)(HL1:Hid (L1=Bi.limbs m1))(HL2:Hid (L2=Bi.limbs m2))(hl1:L1.length<=34)(hl2:L2.length<=34)
  (hU1:U w ao1 L1)(hU2:U w ao2 L2) :
  CP 99 #[.agg #[.bool n1,.slice ao1 L1.length c1],.agg #[.bool n2,.slice ao2 L2.length c2]] w λe w'=>zfs w' (sgn n1 m1+sgn n2 m2) e/\BH w w':=by
 have hll:L2.length<=L1.length:=by rw[HL1.o,HL2.o];exact Bi.len_mono hle.o
 have Ho1:Hid (Bi.Ok L1):=hii (by rw[HL1.o];exact Bi.limbs_ok _);have Ho2:Hid (Bi.Ok L2):=hii (by rw[HL2.o];exact Bi.limbs_ok _);have hvl:Hid (Bi.val L1=m1/\Bi.val L2=m2):=hii (by rw[HL1.o,HL2.o,Bi.val_limbs,Bi.val_limbs];exact⟨rfl,rfl⟩);go_enter func99,ntmps99;go_wp2_with fail;obtain⟨wx,hwx,hsz,B1,B2,B3,hbx⟩:=zbP w (.bool n1) (.slice ao1 L1.length c1) (.bool n2) (.slice ao2 L2.length c2) bF_ nS_ 30;rw[<-hwx];clear hwx;(with_reducible refine(zcW m1 m2 L1 L2 HL1 HL2 ao1 ao2 c1 c2 wx ?_ ?_ (hU1.mono hbx) (hU2.mono hbx)).mono ?_)
 ·omega
 ·omega
 rintro e w0⟨rfl,hb0⟩;have hcmp:0<=zbm m1 m2:=by have:=hle.o;unfold zbm;rw[if_neg oM];split<;>omega
 have hb0':=bu hbx hb0;have B1:=B1.mono hb0;have B2:=B2.mono hb0;have B3:=B3.mono hb0;have hbd:Below w.heap.size w w0.drew:=hb0'.drew;have hX1:=hU1.mono hbd;have hX2:=hU2.mono hbd;have D1:=B1.mono ((Below.refl w0.heap.size w0).drew);have D2:=B2.mono ((Below.refl w0.heap.size w0).drew);have D3:=B3.mono ((Below.refl w0.heap.size w0).drew);obtain⟨z0,z1,_,_⟩:=B1;obtain⟨y0,y1,_,_⟩:=B2;clear hU1 hU2;go_wp2_with fail;go_region_held3 (λw'=>w'.cell? ⟨w.heap.size,0,none⟩=some (.bool n1)/\w'.cell? ⟨w.heap.size,1,none⟩=some (.slice ao1 L1.length c1)/\w'.cell? ⟨w.heap.size+1,1,none⟩=some (.slice ao2 L2.length c2))
  (first|(with_reducible exact⟨z0,z1,y1⟩)|(with_reducible exact⟨D1.c0,D1.c1,D2.c1⟩)|(with_reducible exact⟨E1.c0,E1.c1,E2.c1⟩)|(with_reducible exact⟨F1.c0,F1.c1,F2.c1⟩)|(simp[F1.c0,F1.c1,F2.c1,go_sem];done))
  (first
   |(go_at_call 143;((with_reducible refine(ze0 L1 L2 _ _ _ _ _ ?_ hll (hii ?_) Ho1.o Ho2.o hX1 hX2).mono ?_);(omega);(rw[hvl.o.1,hvl.o.2];have:=hle.o;omega));rintro e w1⟨ao,L,cap,hL,rfl,hcap,hlL,hUL,hb1⟩;have HL:=hii hL;clear hL;have E1:=D1.mono hb1;have E2:=D2.mono hb1;have E3:=D3.mono hb1)
   |(go_at_call 80;((with_reducible refine(zbe n1 _ _ _ _ ?_ hUL (hii ?_)).mono ?_);(omega);(rw[HL.o];exact Bi.limbs_ok _));rintro e w2⟨⟨ng,ao3,n3,Y3,k3,rfl,HR⟩,hb2⟩;have F1:=E1.mono hb2;have F2:=E2.mono hb2;obtain⟨p0,p1,q0,q1⟩:=E3.mono hb2))
 go_wp2;refine bodyPost_ret (v:=.tuple #[.agg #[.bool ng,.slice ao3 n3 Y3],.int .i64 k3]) (by simp[results,Tryz.results99,go_sem,p0,p1]) rfl ⟨⟨ng,ao3,n3,Y3,k3,rfl,hii ?_⟩,?_⟩
 ·have:=HR.o.put2 p0 p1 (.bool ng) (.slice ao3 n3 Y3);rw[HL.o,Bi.val_limbs,hvl.o.1,hvl.o.2]at this;rw[zcZ n1 n2 m1 m2 (by rintro rfl;simp at hnn) hle.o]at this;exact this
 ·exact Below.put2 (Below.step (bu hbd hb1) hb2 nl) oM _ _
theorem zmB(n1 n2:Bool)(hnn:(n1==n2)=false)(m1 m2:Nat)(hle:Hid (m1<m2))(ao1 ao2:OA)(L1 L2:LN)(c1 c2:Nat)(w:Wo)(HL1:Hid (L1=Bi.limbs m1))(HL2:Hid (L2=Bi.limbs m2))(hl1:L1.length<=34)(hl2:L2.length<=34)
  (hU1:U w ao1 L1)(hU2:U w ao2 L2) :
  CP 99 #[.agg #[.bool n1,.slice ao1 L1.length c1],.agg #[.bool n2,.slice ao2 L2.length c2]] w λe w'=>zfs w' (sgn n1 m1+sgn n2 m2) e/\BH w w':=by
 have hll:L1.length<=L2.length:=by rw[HL1.o,HL2.o];exact Bi.len_mono (Nat.le_of_lt hle.o)
 have Ho1:Hid (Bi.Ok L1):=hii (by rw[HL1.o];exact Bi.limbs_ok _);have Ho2:Hid (Bi.Ok L2):=hii (by rw[HL2.o];exact Bi.limbs_ok _);have hvl:Hid (Bi.val L1=m1/\Bi.val L2=m2):=hii (by rw[HL1.o,HL2.o,Bi.val_limbs,Bi.val_limbs];exact⟨rfl,rfl⟩);go_enter func99,ntmps99;go_wp2_with fail;obtain⟨wx,hwx,hsz,B1,B2,B3,hbx⟩:=zbP w (.bool n1) (.slice ao1 L1.length c1) (.bool n2) (.slice ao2 L2.length c2) bF_ nS_ 30;rw[<-hwx];clear hwx;(with_reducible refine(zcW m1 m2 L1 L2 HL1 HL2 ao1 ao2 c1 c2 wx ?_ ?_ (hU1.mono hbx) (hU2.mono hbx)).mono ?_)
 ·omega
 ·omega
 rintro e w0⟨rfl,hb0⟩;have hcmp:zbm m1 m2<0:=by have:=hle.o;unfold zbm;rw[if_pos this];decide
 have hb0':=bu hbx hb0;have B1:=B1.mono hb0;have B2:=B2.mono hb0;have B3:=B3.mono hb0;have hbd:Below w.heap.size w w0.drew:=hb0'.drew;have hX1:=hU1.mono hbd;have hX2:=hU2.mono hbd;have D1:=B1.mono ((Below.refl w0.heap.size w0).drew);have D2:=B2.mono ((Below.refl w0.heap.size w0).drew);have D3:=B3.mono ((Below.refl w0.heap.size w0).drew);obtain⟨z0,z1,_,_⟩:=B1;obtain⟨y0,y1,_,_⟩:=B2;clear hU1 hU2;go_wp2_with fail;go_region_held3 (λw'=>w'.cell? ⟨w.heap.size+1,0,none⟩=some (.bool n2)/\w'.cell? ⟨w.heap.size+1,1,none⟩=some (.slice ao2 L2.length c2)/\w'.cell? ⟨w.heap.size,1,none⟩=some (.slice ao1 L1.length c1))
  (first|(with_reducible exact⟨y0,y1,z1⟩)|(with_reducible exact⟨D2.c0,D2.c1,D1.c1⟩)|(with_reducible exact⟨E2.c0,E2.c1,E1.c1⟩)|(with_reducible exact⟨F2.c0,F2.c1,F1.c1⟩)|(simp[F2.c0,F2.c1,F1.c1,go_sem];done))
  (first
   |(go_at_call 143;((with_reducible refine(ze0 L2 L1 _ _ _ _ _ ?_ hll (hii ?_) Ho2.o Ho1.o hX2 hX1).mono ?_);(omega);(rw[hvl.o.1,hvl.o.2];have:=hle.o;omega));rintro e w1⟨ao,L,cap,hL,rfl,hcap,hlL,hUL,hb1⟩;have HL:=hii hL;clear hL;have E1:=D1.mono hb1;have E2:=D2.mono hb1;have E3:=D3.mono hb1)
   |(go_at_call 80;((with_reducible refine(zbe n2 _ _ _ _ ?_ hUL (hii ?_)).mono ?_);(omega);(rw[HL.o];exact Bi.limbs_ok _));rintro e w2⟨⟨ng,ao3,n3,Y3,k3,rfl,HR⟩,hb2⟩;have F1:=E1.mono hb2;have F2:=E2.mono hb2;obtain⟨p0,p1,q0,q1⟩:=E3.mono hb2))
 go_wp2;refine bodyPost_ret (v:=.tuple #[.agg #[.bool ng,.slice ao3 n3 Y3],.int .i64 k3]) (by simp[results,Tryz.results99,go_sem,p0,p1]) rfl ⟨⟨ng,ao3,n3,Y3,k3,rfl,hii ?_⟩,?_⟩
 ·have:=HR.o.put2 p0 p1 (.bool ng) (.slice ao3 n3 Y3);rw[HL.o,Bi.val_limbs,hvl.o.1,hvl.o.2]at this;rw[show sgn n2 (m2-m1)=sgn n1 m1+sgn n2 m2 by rw[Int.add_comm];exact zcZ n2 n1 m2 m1 (by rintro rfl;simp at hnn) (Nat.le_of_lt hle.o)]at this;exact this
 ·exact Below.put2 (Below.step (bu hbd hb1) hb2 nl) oM _ _
theorem zhE(a b:Vl)(x y:Int)(w:Wo)(ha:zai w a x)(hb:zai w b y) :
  CP 99 #[a,b] w λe w'=>zfs w' (x+y) e/\BH w w':=by
 obtain⟨n1,ao1,L1,c1,rfl,Hn1,HL1,HB1,hc1,hl1,hU1⟩:=ha;obtain⟨n2,ao2,L2,c2,rfl,Hn2,HL2,HB2,hc2,hl2,hU2⟩:=hb;have e1:=zbz x n1 Hn1.o;have e2:=zbz y n2 Hn2.o
 by_cases hn:n1=n2
 ·subst hn;have:=zjw n1 x.natAbs y.natAbs ao1 ao2 L1 L2 c1 c2 w HL1 HL2 hl1 hl2 hU1 hU2
  rwa [e1,e2]at this
 ·have hnn:(n1==n2)=false:=by simpa using hn
  rcases Nat.lt_or_ge x.natAbs y.natAbs with h|h
  ·have:=zmB n1 n2 hnn x.natAbs y.natAbs (hii h) ao1 ao2 L1 L2 c1 c2 w HL1 HL2 hl1 hl2 hU1 hU2
   rwa [e1,e2]at this
  ·have:=zmC n1 n2 hnn x.natAbs y.natAbs (hii h) ao1 ao2 L1 L2 c1 c2 w HL1 HL2 hl1 hl2 hU1 hU2
   rwa [e1,e2]at this
theorem zhC(a b:Vl)(x y:Int)(w:Wo)(ha:zai w a x)(hb:zai w b y) :
  CP 33 #[a,b] w λe w'=>zfs w' (x*y) e/\BH w w':=by
 obtain⟨n1,ao1,L1,c1,rfl,Hn1,HL1,HB1,hc1,hl1,hU1⟩:=ha;obtain⟨n2,ao2,L2,c2,rfl,Hn2,HL2,HB2,hc2,hl2,hU2⟩:=hb;have Ho1:Hid (Bi.Ok L1):=hii (by rw[HL1.o];exact Bi.limbs_ok _);have Ho2:Hid (Bi.Ok L2):=hii (by rw[HL2.o];exact Bi.limbs_ok _);go_enter func33,ntmps33;go_wp2_with fail;obtain⟨wx,hwx,hsz,B1,B2,B3,hbx⟩:=zbP w (.bool n1) (.slice ao1 L1.length c1) (.bool n2) (.slice ao2 L2.length c2) bF_ nS_ 30;rw[<-hwx];clear hwx;have hbd:=hbx.drew;have D1:=B1.mono ((Below.refl wx.heap.size wx).drew);have D2:=B2.mono ((Below.refl wx.heap.size wx).drew);have D3:=B3.mono ((Below.refl wx.heap.size wx).drew);have hX1:=hU1.mono hbd;have hX2:=hU2.mono hbd;clear hU1 hU2;go_region_held3 (λw'=>w'.cell? ⟨w.heap.size,0,none⟩=some (.bool n1)/\w'.cell? ⟨w.heap.size+1,0,none⟩=some (.bool n2)/\w'.cell? ⟨w.heap.size,1,none⟩=some (.slice ao1 L1.length c1)/\w'.cell? ⟨w.heap.size+1,1,none⟩=some (.slice ao2 L2.length c2))
  (first|(with_reducible exact⟨B1.c0,B2.c0,B1.c1,B2.c1⟩)|(with_reducible exact⟨D1.c0,D2.c0,D1.c1,D2.c1⟩)|(with_reducible exact⟨E1.c0,E2.c0,E1.c1,E2.c1⟩)|(with_reducible exact⟨F1.c0,F2.c0,F1.c1,F2.c1⟩)|(simp[F1.c0,F2.c0,F1.c1,F2.c1,go_sem];done))
  (first
   |(go_at_call 81;((with_reducible refine(zkX L1 L2 _ _ _ _ _ ?_ ?_ Ho1.o Ho2.o hX1 hX2).mono ?_);(omega);(omega));rintro e w2⟨ao,L,cap,hL,rfl,hcap,hUL,hb2⟩;have HL:=hii hL;clear hL;have E1:=D1.mono hb2;have E2:=D2.mono hb2;have E3:=D3.mono hb2)
   |(go_at_call 80;((with_reducible refine(zbe (!(n1==n2)) _ _ _ _ ?_ hUL (hii ?_)).mono ?_);(rw[HL.o];exact Nat.le_trans (Bi.limbs_length_le (Bi.val_mul_lt Ho1.o Ho2.o)) oM);(rw[HL.o];exact Bi.limbs_ok _));rintro e w3⟨⟨ng,ao3,n3,Y3,k3,rfl,HR⟩,hb3⟩;have F1:=E1.mono hb3;have F2:=E2.mono hb3;obtain⟨p0,p1,q0,q1⟩:=E3.mono hb3))
 go_wp2;refine bodyPost_ret (v:=.tuple #[.agg #[.bool ng,.slice ao3 n3 Y3],.int .i64 k3]) (by simp[results,Tryz.results33,go_sem,p0,p1]) rfl ⟨⟨ng,ao3,n3,Y3,k3,rfl,hii ?_⟩,?_⟩
 ·have:=HR.o.put2 p0 p1 (.bool ng) (.slice ao3 n3 Y3);rw[HL.o,Bi.val_limbs,HL1.o,HL2.o,Bi.val_limbs,Bi.val_limbs]at this;have h4:sgn (!(n1==n2)) (x.natAbs*y.natAbs)=x*y:=by
   have e1:=zbz x n1 Hn1.o;have e2:=zbz y n2 Hn2.o;rw[<-e1,<-e2,zar,zar];unfold sgn
   cases n1<;>cases n2<;>simp[Int.mul_neg,Int.neg_mul]
  rw[h4]at this;exact this
 ·exact Below.put2 (Below.step (bu hbd hb2) hb3 nl) oM _ _
theorem zk2(a b:Vl)(x y:Int)(w:Wo)(ha:zai w a x)(hb:zai w b y)(hy0:Hid (y≠0)) :
  CP 83 #[a,b] w λe w'=>zpH w' (x.tdiv y) (x.tmod y) e/\BH w w':=by
 obtain⟨n1,ao1,L1,c1,rfl,Hn1,HL1,HB1,hc1,hl1,hU1⟩:=ha;obtain⟨n2,ao2,L2,c2,rfl,Hn2,HL2,HB2,hc2,hl2,hU2⟩:=hb;have hL2:0<L2.length:=by
  rcases Nat.eq_zero_or_pos L2.length with h|h
  ·have h2:=HL2.o;rw[List.length_eq_zero_iff.1 h]at h2;have:=Bi.limbs_eq_nil.1 h2.symm;have:=hy0.o;omega
  ·exact h
 have hLz:((L2.length:Int)==0)=false:=by rw[beq_eq_false_iff_ne];omega
 go_enter func83,ntmps83;go_wp2_with fail;obtain⟨wx,hwx,hsz,B1,B2,B3,B4,hbx⟩:=zl6 w (.bool n1) (.slice ao1 L1.length c1) (.bool n2) (.slice ao2 L2.length c2) bF_ nS_ bF_ nS_ 30;rw[<-hwx];clear hwx;obtain⟨w1,rfl⟩:=exi wx;have hbw:=hbx;have hX1:=hU1.mono hbw;have hX2:=hU2.mono hbw;have hlt4:=B4.lt;clear hU1 hU2 hsz;obtain⟨a0,a1,_,_⟩:=B1;obtain⟨b0,b1,_,_⟩:=B2;go_wp2_with fail;(with_reducible refine(zhy x.natAbs y.natAbs L1 L2 HL1 HL2 ao1 ao2 c1 c2 w1 ?_ ?_ ?_ hX1 hX2).mono ?_)
 ·omega
 ·omega
 ·have:=hy0.o;omega
 rintro e w2⟨⟨a3,a4,Q,R,c3,c4,HQ,HR,hc3,hc4,rfl,HU3,HU4⟩,hb2⟩;have hq34:Q.length<=34:=by rw[HQ.o];exact zax (Nat.lt_of_le_of_lt (Nat.div_le_self _ _) HB1.o)
 have hr34:R.length<=34:=by rw[HR.o];exact zax (Nat.lt_of_le_of_lt (Nat.mod_le _ _) HB1.o)
 have a0:w2.cell? ⟨w.heap.size,0,none⟩=some (.bool n1):=(hb2.cell (p:=⟨w.heap.size,0,none⟩) (by simp only;omega)).trans a0;have b0:w2.cell? ⟨w.heap.size+1,0,none⟩=some (.bool n2):=(hb2.cell (p:=⟨w.heap.size+1,0,none⟩) (by simp only;omega)).trans b0;have B3:=B3.mono hb2;have B4:=B4.mono hb2;have hbw2:=bu hbw hb2;have hlt4:=B4.lt;clear a1 b1 hX1 hX2;go_wp2_with fail;(with_reducible refine(zbe (!(n1==n2)) Q a3 c3 w2 ?_ HU3.o (hii ?_)).mono ?_)
 ·omega
 ·rw[HQ.o];exact eJ
 rintro e w3⟨⟨ng,ao3,n3,Y3,k3,rfl,HR3⟩,hb3⟩;have HV3:Hid (zai w3 (.agg #[.bool ng,.slice ao3 n3 Y3]) (x.tdiv y)):=hii (by
  have h:=HR3.o;have h1:Bi.val Q=x.natAbs / y.natAbs:=by rw[HQ.o,Bi.val_limbs]
  rw[h1,zhv x y n1 n2 Hn1.o Hn2.o]at h;rcases h with⟨_,_,h⟩|⟨h,_⟩
  ·exact h
  ·exact absurd (by rw[Int.natAbs_tdiv];exact Nat.lt_of_le_of_lt (Nat.div_le_self _ _) HB1.o) h)
 have a0:w3.cell? ⟨w.heap.size,0,none⟩=some (.bool n1):=(hb3.cell (p:=⟨w.heap.size,0,none⟩) (by simp only;omega)).trans a0;have B3:=B3.mono hb3;have B4:=B4.mono hb3;have hbw3:=bu hbw2 hb3;have hlt4:=B4.lt;have hU4:=HU4.o.mono hb3;clear b0 HR3;have hlt0:w.heap.size<w3.heap.size:=oM;go_wp2_with fail;have X1:=Box.new w3 (.bool ng) (.slice ao3 n3 Y3) 30;have hba:=bA w3 (.cells #[.bool ng,.slice ao3 n3 Y3] 30);have hsza:(w3.alloc (.cells #[.bool ng,.slice ao3 n3 Y3] 30)).heap.size=w3.heap.size+1:=sM;generalize w3.alloc (.cells #[.bool ng,.slice ao3 n3 Y3] 30)=w4 at*;have B3:=B3.mono hba;have B4:=B4.mono hba;have hbw4:=bu hbw3 hba;have hU4:=hU4.mono hba;have HV4:=hii (HV3.o.mono hba);(with_reducible refine(zbe n1 R a4 c4 w4 ?_ hU4 (hii ?_)).mono ?_)
 ·omega
 ·rw[HR.o];exact eJ
 rintro e w5⟨⟨J5,ao5,n5,Y5,k5,rfl,HR5⟩,hb5⟩;have HW5:Hid (zai w5 (.agg #[.bool J5,.slice ao5 n5 Y5]) (x.tmod y)):=hii (by
  have h:=HR5.o;have h1:Bi.val R=x.natAbs % y.natAbs:=by rw[HR.o,Bi.val_limbs]
  rw[h1,zhu x y n1 Hn1.o]at h;rcases h with⟨_,_,h⟩|⟨h,_⟩
  ·exact h
  ·exact absurd (by rw[Int.natAbs_tmod];exact Nat.lt_of_le_of_lt (Nat.mod_le _ _) HB1.o) h)
 have B3:=B3.mono hb5;have B4:=B4.mono hb5;have X1:=X1.mono hb5;have hbw5:=bu hbw4 hb5;have HV5:=hii (HV4.o.mono hb5);have hlt5:w3.heap.size<w5.heap.size:=by have:=hb5.size;omega
 clear a0 HR5 hU4 hlt0;go_upto_region 6 with fail;have X2:=Box.new w5 (.bool J5) (.slice ao5 n5 Y5) 30;have hba5:=bA w5 (.cells #[.bool J5,.slice ao5 n5 Y5] 30);have hszb:(w5.alloc (.cells #[.bool J5,.slice ao5 n5 Y5] 30)).heap.size=w5.heap.size+1:=sM;generalize w5.alloc (.cells #[.bool J5,.slice ao5 n5 Y5] 30)=w6 at*;have B3:=B3.mono hba5;have B4:=B4.mono hba5;have X1:=X1.mono hba5;have hbw6:=bu hbw5 hba5;have HV6:=hii (HV5.o.mono hba5);have HW6:=hii (HW5.o.mono hba5);have hlt3:=B4.lt;obtain⟨p0,p1,q0,q1⟩:=B3;obtain⟨r0,r1,s0,s1⟩:=B4;obtain⟨x0,x1,_,_⟩:=X1;obtain⟨y0,y1,_,_⟩:=X2;have hne1:w.heap.size+1+1<w3.heap.size:=oM;have hne2:w.heap.size+1+1+1<w3.heap.size:=oM;clear hsza hszb hbw3 hbw4 hbw5 hba hba5;go_region;go_wp2;have r0':∀u v,((w6.setCell ⟨w.heap.size+1+1,0,none⟩ u).setCell ⟨w.heap.size+1+1,1,none⟩ v).cell? ⟨w.heap.size+1+1+1,0,none⟩=some bF_:=λu v=>by
  rw[World.cell?_setCell_other _ _ _ _ sM,World.cell?_setCell_other _ _ _ _ sM];exact r0
 have r1':∀u v,((w6.setCell ⟨w.heap.size+1+1,0,none⟩ u).setCell ⟨w.heap.size+1+1,1,none⟩ v).cell? ⟨w.heap.size+1+1+1,1,none⟩=some nS_:=λu v=>by
  rw[World.cell?_setCell_other _ _ _ _ sM,World.cell?_setCell_other _ _ _ _ sM];exact r1
 have R0:=hii r0';have R1:=hii r1';clear r0' r1';refine bodyPost_ret (v:=.tuple #[.agg #[.bool ng,.slice ao3 n3 Y3],.agg #[.bool J5,.slice ao5 n5 Y5],.int .i64 0]) (by simp[results,Tryz.results83,go_sem,p0,p1,r0,r1]) rfl ⟨⟨ng,ao3,n3,Y3,J5,ao5,n5,Y5,rfl,hii ?_,hii ?_⟩,?_⟩
 ·exact((HV6.o.put2 p0 p1 _ _).put2 (R0.o _ _) (R1.o _ _) _ _).mono (br.drew)
 ·exact((HW6.o.put2 p0 p1 _ _).put2 (R0.o _ _) (R1.o _ _) _ _).mono (br.drew)
 ·exact(Below.put2 (Below.put2 hbw6 oM _ _) oM _ _).drew
theorem zdx(a b:Vl)(x y:Int)(w:Wo)(ha:zai w a x)(hb:zai w b y) :
  CP 79 #[a,b] w λe w'=>(∃(ng:Bool)(ao:OA)(n cap:Nat),e=.returned (.agg #[.bool ng,.slice ao n cap])/\Hid (zai w' (.agg #[.bool ng,.slice ao n cap]) ((Int.gcd x y:Nat):Int)))/\BH w w':=by
 obtain⟨n1,ao1,L1,c1,rfl,Hn1,HL1,HB1,hc1,hl1,hU1⟩:=ha;obtain⟨n2,ao2,L2,c2,rfl,Hn2,HL2,HB2,hc2,hl2,hU2⟩:=hb;go_enter func79,ntmps79;go_wp2_with fail;obtain⟨wx,hwx,hsz,B1,B2,B3,hbx⟩:=zbP w (.bool n1) (.slice ao1 L1.length c1) (.bool n2) (.slice ao2 L2.length c2) bF_ nS_ 30;rw[<-hwx];clear hwx;obtain⟨a0,a1,_,_⟩:=B1;obtain⟨b0,b1,_,_⟩:=B2;go_quiet (fail);have hbq:=below_drewN (Below.refl wx.heap.size wx) nq;have B3:=B3.mono hbq;have hbw3:=below_drewN hbx nq;have hU3:=hU1.mono hbw3;have hU4:=hU2.mono hbw3;clear a0 a1 b0 b1 hU1 hU2 hsz hbq;generalize wx.drewN nq=w3 at*;go_wp2_with fail;go_loopg [5,6] (y.natAbs) (λgk s7 s8 wr=>∃(X Y:Nat)(L M:LN)(a5 a6:OA)(c5 c6:Nat),Y<=gk/\s7=.slice a5 L.length c5/\s8=.slice a6 M.length c6/\Hid (L=Bi.limbs X)/\Hid (M=Bi.limbs Y)/\Hid (Nat.gcd X Y=Int.gcd x y) /\
   Hid (X<Bi.Big/\Y<Bi.Big)/\U wr a5 L/\U wr a6 M/\BH w3 wr)
 case atStart=>exact⟨x.natAbs,y.natAbs,L1,L2,ao1,ao2,c1,c2,nl,rfl,rfl,HL1,HL2,hii rfl,hii ⟨HB1.o,HB2.o⟩,hU3,hU4,br⟩
 case round=>
  clear hU3 hU4;obtain⟨X,Y,L,M,a5,a6,c5,c6,hY,rfl,rfl,HL,HM,HG,HXY,hUL,hUM,hbr⟩:=hrel;have hl5:L.length<=34:=by rw[HL.o];exact zax HXY.o.1
  have hl6:M.length<=34:=by rw[HM.o];exact zax HXY.o.2
  by_cases hM0:M=[]
  ·have hY0:Y=0:=Bi.limbs_eq_nil.1 (by rw[<-HM.o];exact hM0);subst hM0;subst hY0;have hbr0:=bu hbw3 hbr;have F4:=B3.mono hbr;clear hUM hl6;go_wp2_with fail;(with_reducible refine(zbe false L a5 c5 wr ?_ hUL (hii ?_)).mono ?_)
   ·omega
   ·rw[HL.o];exact eJ
   rintro e w5⟨⟨ng,ao3,n3,Y3,k3,rfl,HR⟩,hb5⟩;have hB:=F4.mono hb5;have hlt:=hB.lt;obtain⟨p0,p1,q0,q1⟩:=hB;have hV:Hid (zai w5 (.agg #[.bool ng,.slice ao3 n3 Y3]) ((Int.gcd x y:Nat):Int)):=hii (by
    have e1:sgn false (Bi.val L)=((Int.gcd x y:Nat):Int):=by rw[HL.o,Bi.val_limbs,<-HG.o];simp[sgn]
    rw[e1]at HR;rcases HR.o with⟨_,_,h⟩|⟨h,_⟩
    ·exact h
    ·refine absurd ?_ h;rw[Int.natAbs_natCast,<-HG.o];exact zjO HXY.o.1 HXY.o.2)
   go_wp2;refine bodyPost_ret (v:=.agg #[.bool ng,.slice ao3 n3 Y3]) (by simp[results,Tryz.results79,go_sem,p0,p1,hlt]) rfl ⟨⟨ng,ao3,n3,Y3,rfl,hii ((hV.o.put2 p0 p1 _ _).mono (bA _ _))⟩,?_⟩;refine(Below.put2 (bu hbr0 hb5) oM _ _).alloc ?_ _;have:=hb5.size;have:=hbr.size;have:=hbw3.size;simp[World.setCell];omega
  ·have hM1:0<M.length:=List.length_pos_iff.2 hM0;have hY1:0<Y:=by
    rcases Nat.eq_zero_or_pos Y with h|h
    ·exact absurd (by rw[HM.o,h];rfl) hM0
    ·exact h
   clear hM0;go_wp2_with fail;(with_reducible refine(zhy X Y L M HL HM a5 a6 c5 c6 wr ?_ ?_ hY1 hUL hUM).mono ?_)
   ·omega
   ·omega
   rintro e w5⟨⟨a7,a8,Q,R,c7,c8,HQ,HR,hc7,hc8,rfl,HU7,HU8⟩,hb5⟩;have hUM5:=hUM.mono hb5;have hUR:=HU8.o;have hlt:=Nat.mod_lt X hY1;clear hUL hUM;go_wp2;go_roundg (X % Y)
   case measure=>omega
   case rel=>exact⟨Y,X % Y,M,R,a6,a8,c6,c8,nl,rfl,rfl,HM,HR,hii (by rw[<-HG.o];exact zhU X Y),hii ⟨HXY.o.2,Nat.lt_trans hlt HXY.o.2⟩,hUM5,hUR,bu hbr hb5⟩
def zpq(P:Prop)(e:Ending):Prop:=∃r:Bool,Hid (r=true↔P)/\e=.returned (.bool r)
theorem zeA{l:LN}{x:Nat}(hx:l[l.length-1]?=some x):∃r,l=r++[x]:=by
 rcases List.eq_nil_or_concat l with h|⟨r,y,h⟩
 ·subst h;simp at hx
 ·rw[List.concat_eq_append]at h;subst h;simp at hx;exact⟨r,by rw[hx]⟩
theorem zer(neg:Bool)(l:LN)(ao:OA)(cap:Nat)(w:Wo)(hm:l.length<=1000000000)(hU:U w ao l) :
  CP 77 #[.agg #[.bool neg,.slice ao l.length cap]] w λe w'=>zpq (zaz neg l) e/\BH w w':=by
 go_enter func77,ntmps77;go_wp2_with fail;have hbx:=bA w (.cells #[.bool neg,.slice ao l.length cap] 30);have B1:=Box.new w (.bool neg) (.slice ao l.length cap) 30;have hUx:=hU.mono hbx;clear hU;generalize w.alloc (.cells #[.bool neg,.slice ao l.length cap] 30)=wx at*;obtain⟨a0,a1,_,_⟩:=B1;go_loop [3] (λs=>∃k:Nat,k<=l.length/\s=.int .i64 k/\Hid (Bi.Ok (l.take k))) (λs=>l.length-(intOf s).toNat)
 case atStart=>exact⟨0,Nat.zero_le _,rfl,hii (by simp[Bi.Ok])⟩
 case round=>
  obtain⟨k,hk,rfl,HK⟩:=hrel
  by_cases hlt:k<l.length
  ·obtain⟨x,hx⟩:=zal hlt;obtain⟨b,off,rfl,hc⟩:=hUx.at' hx;have HX:=hii hx;clear hx hUx
   by_cases hs:(1000000000:Int)<=(x:Int)
   ·have hno:¬zaz neg l:=by
     intro h;unfold zaz at h;rw[if_neg (by rintro rfl;simp at hlt)]at h;have:=h.1.at' HX.o;omega
    have HNO:=hii hno;clear hno;go_wp2;go_ret;exact⟨⟨false,hii (by simp[HNO.o]),rfl⟩,hbx⟩
   ·go_wp2;go_round
    case rel=>
     refine⟨k+1,oM,gM,hii ?_⟩;have h1:l[k]'hlt=x:=(List.getElem?_eq_some_iff.1 HX.o).2;rw[List.take_succ_eq_append_getElem hlt,h1];exact HK.o.snoc oM
    case measure=>exact mM
  ·obtain rfl:k=l.length:=oM;have HO:Hid (Bi.Ok l):=hii (by have:=HK.o;rwa [List.take_length]at this);clear HK
   by_cases hl0:l=[]
   ·subst hl0;clear hUx;go_wp2;go_ret;exact⟨⟨_,hii (by simp[zaz]),rfl⟩,hbx⟩
   ·have hl1:0<l.length:=List.length_pos_iff.2 hl0;have hlz:((l.length:Int)==0)=false:=by rw[beq_eq_false_iff_ne];omega
    obtain⟨x,hx⟩:=zal (l:=l) (k:=l.length-1) oM;obtain⟨b,off,rfl,hc⟩:=hUx.at' hx;have HV:Hid (zaz neg l↔Bi.Ok l/\x≠0/\Bi.val l<Bi.Big):=hii (by
     obtain⟨r,rfl⟩:=zeA hx;exact zej)
    have HS:=hii (zeA hx);clear hx hl0
    by_cases hx0:x=0
    ·subst hx0;clear hUx;go_wp2;go_ret;exact⟨⟨false,hii (by rw[HV.o];simp),rfl⟩,hbx⟩
    ·have hxb:((x:Int) != 0)=true:=by rw[bne_iff_ne];omega
     have HL:Hid (l=Bi.limbs (Bi.val l)):=hii (by
      obtain⟨r,hr⟩:=HS.o;have ho:=HO.o;rw[hr]at ho|-;exact zeL ho hx0)
     go_wp2_with fail;(with_reducible refine(zdM _ l HL _ _ _ ?_ hUx).mono ?_)
     ·omega
     rintro e w2⟨⟨d,HD,hd,rfl⟩,rfl⟩;clear hUx;go_wp2;go_ret;refine⟨⟨_,hii ?_,rfl⟩,hbx⟩;rw[HV.o,<-Bi.dlen_le,<-HD.o];simp[HO.o,hx0];omega
end Go.Proofs.YtfgffkmddanjjaaGreatDoor
namespace Bi
open Go
def isDig(b:UInt8):Prop:=48<=b.toNat/\b.toNat<=57
def decVal:List UInt8->Nat
 |[]=>0
 |b :: r=>(b.toNat-48)*10 ^ r.length+decVal r
end Bi
namespace Go.Proofs.YtfgffkmddanjjaaGreatDoor
open _root_.Go.Proofs.Tryz
open Go.RowKit
theorem zmR(a b:Vl)(x y:Int)(w:Wo)(ha:zai w a x)(hb:zai w b y) :
  CP 35 #[a,b] w λe w'=>e=.returned (.bool (decide (x=y)))/\BH w w':=by
 obtain⟨n1,ao1,L1,c1,rfl,Hn1,HL1,HB1,hc1,hl1,hU1⟩:=ha;obtain⟨n2,ao2,L2,c2,rfl,Hn2,HL2,HB2,hc2,hl2,hU2⟩:=hb;refine(zjU n1 n2 L1 L2 ao1 ao2 c1 c2 w oM oM hU1 hU2).mono ?_;rintro e w'⟨⟨r,HR,rfl⟩,hb⟩;refine⟨zcV ?_,hb⟩;have h:=HR.o;have e1:=zbz x n1 Hn1.o;have e2:=zbz y n2 Hn2.o
 by_cases hxy:x=y
 ·subst hxy;rw[h.2 ⟨by rw[Hn1.o,Hn2.o],by rw[HL1.o,HL2.o]⟩];simp
 ·cases r with
  |false=>simp[hxy]
  |true=>
   obtain⟨h1,h2⟩:=h.1 rfl;rw[HL1.o,HL2.o]at h2;have:=Bi.limbs_inj h2;rw[<-e1,<-e2,h1,this]at hxy;exact absurd rfl hxy
theorem zkd{k:Nat}(h:k<=9223372036854775808):k<Bi.Big:=zdJ h
def zkA(w:Wo)(v:Vl):Prop :=
 ∃(neg:Bool)(ao:OA)(l:LN)(cap:Nat),v=.agg #[.bool neg,.slice ao l.length cap]/\l.length<=9223372036854775807/\U w ao l/\Hid (∀x∈l,x<4294967296)
theorem zkA.mono{w w':Wo}{v:Vl}(h:zkA w v)(hb:BH w w'):zkA w' v:=by
 obtain⟨neg,ao,l,cap,e,h1,h2,h3⟩:=h;exact⟨neg,ao,l,cap,e,h1,h2.mono hb,h3⟩
theorem zai.parts{w:Wo}{v:Vl}{z:Int}(h:zai w v z):∃(ng:Bool)(ao:OA)(n cap:Nat),v=.agg #[.bool ng,.slice ao n cap]:=by
 obtain⟨neg,ao,L,cap,e,_⟩:=h;exact⟨neg,ao,_,cap,e⟩
theorem zb1(v:Vl)(z:Int)(w:Wo)(h:zai w v z)(hE:Env w) :
  CP 121 #[v] w λe w'=>e=.returned (.bool true)/\BH w w':=by
 obtain⟨n1,ao1,L1,c1,rfl,Hn1,HL1,HB1,hc1,hl1,hU1⟩:=h;refine(zb8 n1 L1 ao1 c1 w oM hU1 hE).mono ?_;rintro e w'⟨⟨r,HR,rfl⟩,hb⟩;exact⟨by rw[HR.o.2 (zaC z n1 L1 Hn1.o HL1.o HB1.o)],hb⟩
theorem zkx.some{w:Wo}{z:Int}{v:Vl}{k:Int}(h:zkx w z v k):∃y,zai w v y/\(y=if z.natAbs<Bi.Big then z else 0)/\k=if z.natAbs<Bi.Big then 0 else 3:=by
 rcases h with⟨h1,h2,h3⟩|⟨h1,h2,h3⟩
 ·exact⟨z,h3,by rw[if_pos h1],by rw[if_pos h1];exact h2⟩
 ·exact⟨0,by rw[h3];exact zai.zero _,by rw[if_neg h1],by rw[if_neg h1];exact h2⟩
theorem Box.set2{w:Wo}{n:Nat}{x y:Vl}(h:Box w n x y)(u v:Vl):Box ((w.setCell (aD_ n 0) u).setCell (aD_ n 1) v) n u v:=by
 have h0:=h.c0;have h1:=h.c1;have h2:=h.f0;have h3:=h.f1;exact⟨by simp[h0,go_sem],by simp[h1,go_sem],by simp[h2,go_sem],by simp[h3,go_sem]⟩
theorem zai.small{w:Wo}{v:Vl}{z:Int}(h:zai w v z):z.natAbs<Bi.Big:=by
 obtain⟨_,_,_,_,_,_,_,hB,_⟩:=h;exact hB.o
theorem zkx.fits{w:Wo}{z:Int}{v:Vl}{k:Int}(h:zkx w z v k)(hz:z.natAbs<Bi.Big):k=0/\zai w v z:=by
 rcases h with⟨_,h2,h3⟩|⟨h1,_⟩
 ·exact⟨h2,h3⟩
 ·exact absurd hz h1
theorem zjN{x y:Int}(hx:x.natAbs<Bi.Big)(hy:y.natAbs<Bi.Big):(((Int.gcd x y:Nat):Int)).natAbs<Bi.Big:=by
 rw[Int.natAbs_natCast];exact zjO hx hy
theorem zkC(a b:Vl)(x y c:Int)(w:Wo)(hc:Hid (zdr x y=c))(ha:zai w a x)(hb:zai w b y)(hE:Env w) :
  CP 97 #[a,b] w λe w'=>e=.returned (.int .i64 c)/\BH w w':=by
 rw[<-hc.o];exact znz a b x y w ha hb hE
theorem zmz(a b:Vl)(x y c:Int)(w:Wo)(hc:Hid (zdr x y=c))(ha:zai w a x)(hb:zai w b y) :
  CP 54 #[a,b] w λe w'=>e=.returned (.int .i64 c)/\BH w w':=by
 rw[<-hc.o];exact zk3 a b x y w ha hb
end Go.Proofs.YtfgffkmddanjjaaGreatDoor
namespace Go
open Go.RowKit
section
variable {P : Program} {ops : Array Oper} {Q : Exit → Act → Wo → Prop} {md : Region.Mode}
def zea(L:Nat->Prop):LN->Prop
 |[]=>True
 |d :: r=>L d/\zea L r
theorem zea.mem{L:Nat->Prop}:∀{l:LN},(∀d∈l,L d)->zea L l
 |[],_=>trivial
 |d :: r,h=>⟨h d sM,zea.mem λx hx=>h x (by simp[hx])⟩
def zaV(md:Region.Mode)(o:Oper):LN:=o.after.toList.filterMap λe=>if Region.binds md e then some e.on else none
def zkF(md:Region.Mode)(ops:Array Oper):Bool:=(List.range ops.size).all λi=>((ops[i]?).map λo=>(zaV md o).all (λd=>decide (d<i))).getD true
def zaO(p:Nat->Oper->Prop):Nat->List Oper->Prop
 |_,[]=>True
 |k,o :: r=>p k o/\zaO p (k+1) r
theorem zaO.get{p:Nat->Oper->Prop}:∀{l:List Oper} {k i:Nat} {o:Oper},zaO p k l->l[i]?=some o->p (k+i) o
 |[],_,_,_,_,h=>by simp at h
 |x :: r,k,0,o,h,h'=>by simp at h';subst h';exact h.1
 |x :: r,k,i+1,o,h,h'=>by
  have:=zaO.get (k:=k+1) (i:=i) h.2 (by simpa using h');rw[show k+(i+1)=k+1+i by omega];exact this
def On(listed:Array Bool)(i:Nat):Prop:=listed.getD i false=true
theorem zhN:∀(l:List Bool)(i:Nat),l[i]?=some false->((l.set i true).filter (λb=>!b)).length+1=(l.filter (λb=>!b)).length
 |[],_,h=>by simp at h
 |x :: r,0,h=>by simp at h;subst h;simp
 |x :: r,i+1,h=>by
  have:=zhN r i (by simpa using h)
  cases x<;>simp<;>omega
theorem zf5:∀(l:List Bool),(l.filter (λb=>!b)).length=0->∀i,i<l.length->l[i]?=some true
 |[],_,i,h=>by simp at h
 |x :: r,h,i,hi=>by
  cases x
  ·simp at h
  ·cases i with
   |zero=>rfl
   |succ i=>simpa using zf5 r (by simpa using h) i (by simpa using hi)
theorem zf3{o:Oper}{d:Nat}:d∈zaV md o↔∃e∈o.after,Region.binds md e=true/\e.on=d:=by
 unfold zaV;simp only[List.mem_filterMap,Array.mem_toList_iff]
 constructor
 ·rintro⟨e,he,h⟩
  cases hb:Region.binds md e<;>simp[hb]at h
  exact⟨e,he,hb,h⟩
 ·rintro⟨e,he,hb,h⟩;exact⟨e,he,by simp[hb,h]⟩
theorem zca(ht:zkF md ops=true){i:Nat}{o:Oper}(ho:ops[i]?=some o){d:Nat}(hd:d∈zaV md o):d<i:=by
 have hlt:i<ops.size:=(Array.getElem?_eq_some_iff.1 ho).1;have:=(List.all_eq_true.1 ht) i (by simpa using hlt);rw[ho]at this;simp at this;exact this d hd
theorem zeh{I:(Nat->Prop)->Act->Wo->Prop}(ht:zkF md ops=true)
  (hs:zaO (λi o=>∀L a w,zea L (zaV md o)->¬L i->I L a w->wpOp P ops Q i (I (λj=>j=i\/L j)) a w) 0 ops.toList)
  (he:∀L a w,(∀i,i<ops.size->L i)->I L a w->Q .normal a w) :
  ∀(fuel:Nat)(listed:Array Bool)(a:Act)(w:Wo),listed.size=ops.size->(listed.toList.filter (λb=>!b)).length<=fuel->I (On listed) a w->wpAny P md ops Q fuel listed a w:=by
 have all:∀(listed:Array Bool),listed.size=ops.size->Region.ready md ops listed=[]->∀i,i<ops.size->On listed i:=by
  intro listed hsz hr i
  induction i using Nat.strongRecOn with
  |ind i ih=>
   intro hi
   cases hb:listed.getD i false with
   |true=>exact hb
   |false=>
    exfalso
    have:i∈Region.ready md ops listed:=by
     rw[mem_ready];refine⟨?_,ops[i],by simp[hi],?_⟩
     ·have:i<listed.size:=oM;simp[this]at hb|-;exact hb
     ·intro e he hbe;have hlt:=zca (md:=md) ht (i:=i) (o:=ops[i]) (by simp[hi]) (zf3.2 ⟨e,he,hbe,rfl⟩);exact ih e.on hlt oM
    rw[hr]at this
    cases this
 intro fuel
 induction fuel with
 |zero=>
  intro listed a w hsz hl h;have hall:∀i,i<ops.size->On listed i:=by
   intro i hi;have:=zf5 listed.toList oM i (by simpa [hsz]using hi);unfold On;have hi':i<listed.size:=oM;simp[hi']at this|-;exact this
  refine⟨?_,he _ a w hall h⟩
  cases hr:Region.ready md ops listed with
  |nil=>rfl
  |cons x r=>
   have hx:x∈Region.ready md ops listed:=by rw[hr];simp
   rw[mem_ready]at hx;obtain⟨h0,o,ho,_⟩:=hx;have hlt:x<ops.size:=(Array.getElem?_eq_some_iff.1 ho).1;have:=hall x hlt;unfold On at this;have hi':x<listed.size:=oM;simp[hi']at this h0;rw[this]at h0;cases h0
 |succ fuel ih=>
  intro listed a w hsz hl h;refine⟨λhr=>he _ a w (all listed hsz hr) h,λi hi=>?_⟩;rw[mem_ready]at hi;obtain⟨h0,o,ho,hw⟩:=hi;have hlt:i<ops.size:=(Array.getElem?_eq_some_iff.1 ho).1;have hi':i<listed.size:=oM;have hget:listed.toList[i]?=some false:=by
   simp[hi']at h0|-;exact h0
  have h1:=zaO.get (i:=i) (o:=o) hs (by simpa using ho);rw[Nat.zero_add]at h1;have h2:=h1 (On listed) a w (zea.mem λd hd=>by
   obtain⟨e,he1,hb,rfl⟩:=zf3.1 hd;exact hw e he1 hb) (by unfold On;simp[hi']at h0|-;exact h0) h
  refine wpOp_mono (λa' w' h3=>ih _ a' w' (by simpa using hsz) ?_ ?_) h2
  ·have:=zhN listed.toList i hget;rw[Array.toList_setIfInBounds];omega
  ·have:(λj=>j=i\/On listed j)=On (listed.setIfInBounds i true):=by
    funext j
    apply propext
    unfold On
    by_cases hji:j=i
    ·subst hji;simp[hi']
    ·rw[getD_set_ne false (Ne.symm hji)];simp[hji]
   rw[<-this];exact h3
def ovr(t:Array Vl)(T:Nat->Vl):LN->Array Vl
 |[]=>t
 |d :: r=>(ovr t T r).setIfInBounds d (T d)
theorem sA:(∀(t:Array Vl)(T:Nat->Vl),ovr t T []=t)/\(∀(t:Array Vl)(T:Nat->Vl)(d:Nat)(r:LN),ovr t T (d :: r)=(ovr t T r).setIfInBounds d (T d))/\(∀(a:Act)(d:Nat)(v:Vl),a.put (some d) v={a with tmps:=a.tmps.setIfInBounds d v})/\(∀(a:Act)(v:Vl),a.put none v=a)/\(∀(l:List Vl)(i:Nat)(a:Vl),l.toArray.setIfInBounds i a=(l.set i a).toArray)/\(∀(x:Vl)(xs:List Vl)(a:Vl),(x :: xs).set 0 a=a :: xs)/\∀(x:Vl)(xs:List Vl)(i:Nat)(a:Vl),(x :: xs).set (i+1) a=x :: xs.set i a :=
 ⟨λ_ _=>rfl,λ_ _ _ _=>rfl,λ_ _ _=>rfl,λ_ _=>rfl,λl i a=>List.setIfInBounds_toArray l i a,λ_ _ _=>rfl,λ_ _ _ _=>rfl⟩
def upd(T:Nat->Vl)(d:Nat)(v:Vl):Nat->Vl:=λk=>if k=d then v else T k
def zcw(T:Nat->Vl)(d:Option Nat)(v:Vl):Nat->Vl :=
 match d with
 |none=>T
 |some d=>upd T d v
theorem zfZ(t:Array Vl)(T:Nat->Vl)(d:Nat)(v:Vl):∀(l:LN),d ∉ l->ovr t (upd T d v) l=ovr t T l
 |[],_=>rfl
 |x :: r,h=>by
  simp only[ovr];rw[zfZ t T d v r (λh'=>h (by simp[h']))];have:x≠d:=λe=>h (by simp[e])
  simp[upd,this]
theorem ze6(t:Array Vl)(T:Nat->Vl)(d:Nat)(v:Vl):∀(l:LN),d∈l->(ovr t T l).setIfInBounds d v=ovr t (upd T d v) l
 |[],h=>by simp at h
 |x :: r,h=>by
  simp only[ovr]
  by_cases hx:x=d
  ·subst hx
   by_cases hr:x∈r
   ·rw[<-ze6 t T x v r hr];simp[upd]
   ·rw[zfZ t T x v r hr];simp[upd]
  ·have hr:d∈r:=by simpa [Ne.symm hx]using h
   rw[Array.setIfInBounds_comm _ _ hx,ze6 t T d v r hr];simp[upd,hx]
theorem ze7(t:Array Vl):∀(l:LN),ovr t (λk=>t.getD k undef) l=t
 |[]=>rfl
 |x :: r=>by
  simp only[ovr];rw[ze7 t r]
  apply Array.ext
  ·simp
  ·intro i h1 h2;rw[Array.getElem_setIfInBounds]
   ·by_cases hx:x=i
    ·subst hx;simp[h2]
    ·simp[hx]
   ·exact h2
def znH(ops:Array Oper):LN:=ops.toList.filterMap (·.dst)
theorem zcv{id:Nat}{a:Act}{w:Wo}(J:(Nat->Prop)->(Nat->Vl)->Wo->Prop)(ds:LN)
  (hm:P.follows .mixedOrders=true)(ht:zkF .any ops=true)(hd:znH ops=ds)
  (h0:∀T,J (λ_=>False) T {w with drawn:=w.drawn+1})
  (hs:zaO (λi o=>∀(L:Nat->Prop)(T:Nat->Vl)(w:Wo),zea L (zaV .any o)->¬L i->J L T w ->
   ∀K:Act->Wo->Prop,(∀v w',J (λj=>j=i\/L j) (zcw T o.dst v) w'->K (({a with tmps:=ovr a.tmps T ds}:Act).put o.dst v) w') ->
    wpOp P ops Q i K {a with tmps:=ovr a.tmps T ds} w) 0 ops.toList)
  (he:∀T w,J (λi=>i<ops.size) T w->Q .normal {a with tmps:=ovr a.tmps T ds} w)
  (hmono:∀L T w,(∀i,i<ops.size->L i)->J L T w->J (λi=>i<ops.size) T w):(Code.region id ops true).wp P Q a w:=by
 refine wp_region_any hm (zeh (I:=λL a' w'=>∃T,a'={a with tmps:=ovr a.tmps T ds}/\J L T w') ht ?_ ?_ _ _ _ _ sM sM ?_)
 ·have key:∀(l:List Oper)(k:Nat),(∀o∈l,∀d,o.dst=some d->d∈ds) ->
    zaO (λi o=>∀(L:Nat->Prop)(T:Nat->Vl)(w:Wo),zea L (zaV .any o)->¬L i->J L T w ->
     ∀K:Act->Wo->Prop,(∀v w',J (λj=>j=i\/L j) (zcw T o.dst v) w'->K (({a with tmps:=ovr a.tmps T ds}:Act).put o.dst v) w') ->
      wpOp P ops Q i K {a with tmps:=ovr a.tmps T ds} w) k l ->
    zaO (λi o=>∀L a' w,zea L (zaV .any o)->¬L i->(∃T,a'={a with tmps:=ovr a.tmps T ds}/\J L T w) ->
     wpOp P ops Q i (λa' w'=>∃T,a'={a with tmps:=ovr a.tmps T ds}/\J (λj=>j=i\/L j) T w') a' w) k l:=by
   intro l
   induction l with
   |nil=>intro k _ _;trivial
   |cons o r ih=>
    intro k hin h;refine⟨?_,ih (k+1) (λo ho=>hin o (by simp[ho])) h.2⟩;rintro L a' w hL hn⟨T,rfl,hJ⟩;refine h.1 L T w hL hn hJ _ (λv w' hJ'=>⟨zcw T o.dst v,?_,hJ'⟩)
    cases hdo:o.dst with
    |none=>rfl
    |some d=>
     have:=hin o sM d hdo;simp only[Act.put,zcw];rw[ze6 _ _ _ _ _ this]
  refine key ops.toList 0 ?_ hs;intro o ho d hdo;rw[<-hd];exact List.mem_filterMap.2 ⟨o,ho,hdo⟩
 ·rintro L a' w hL⟨T,rfl,hJ⟩;exact he T w (hmono L T w hL hJ)
 ·refine⟨λk=>a.tmps.getD k undef,by rw[ze7],?_⟩;have:On (Array.replicate ops.size false)=λ_=>False:=by
   funext i
   unfold On
   by_cases h:i<ops.size<;>simp[h]
  rw[this];exact h0 _
theorem wO{i:Nat}{o:Oper}{K:Act->Wo->Prop}{a:Act}{w:Wo}(hi:ops[i]?=some o)(h:o.wp P a w K Q)(hw:Region.wanted o (yielded ops a.tmps)=true:=by rfl):wpOp P ops Q i K a w:=by
 unfold Go.wpOp;simp only[hi,hw,if_true];exact .inl h
theorem zaT{i:Nat}{o:Oper}{K:Act->Wo->Prop}{a:Act}{w:Wo}(hi:ops[i]?=some o)(hw:Region.wanted o (yielded ops a.tmps)=false)(h:K (a.put o.dst undef) w):wpOp P ops Q i K a w:=by
 unfold Go.wpOp;simp only[hi,hw];exact h
def zcr(Fs:List (FW))(ds:LN)(T:Nat->Vl)(W:Wo):LN->Prop
 |[]=>True
 |k :: r=>(Fs.getD k λ_ _=>True) W (T (ds.getD k 0))/\zcr Fs ds T W r
theorem zcr.mem{Fs:List (FW)}{ds:LN}{T:Nat->Vl}{W:Wo}:∀{l:LN},(∀k∈l,(Fs.getD k λ_ _=>True) W (T (ds.getD k 0)))->zcr Fs ds T W l
 |[],_=>trivial
 |k :: r,h=>⟨h k sM,zcr.mem λx hx=>h x (by simp[hx])⟩
theorem zcr.of{Fs:List (FW)}{ds:LN}{T:Nat->Vl}{W:Wo}:∀{l:LN} (k:Nat),zcr Fs ds T W l->k∈l->(Fs.getD k λ_ _=>True) W (T (ds.getD k 0))
 |[],_,_,h=>by simp at h
 |x :: r,k,h,hk=>by
  rcases List.mem_cons.1 hk with rfl|hk
  ·exact h.1
  ·exact zcr.of k h.2 hk
theorem zcr.at{Fs:List (FW)}{ds:LN}{T:Nat->Vl}{W:Wo}{n:Nat}(k:Nat)(h:zcr Fs ds T W (List.range n))(hk:k<n):(Fs.getD k λ_ _=>True) W (T (ds.getD k 0)) :=
 zcr.of k h (by simpa using hk)
def zkv(F:FW):Prop:=∀(W W':Wo)(v:Vl),F W v->BH W W'->F W' v
theorem sV(u:Vl):zkv (λ_ v=>v=u):=λ_ _ _ h _=>h
theorem zS{p:Prop}(h:p:=by repeat' (first|exact trivial|exact sV _|refine⟨?_,?_⟩)):p:=h
def zoJ:List (FW)->Prop
 |[]=>True
 |F :: r=>zkv F/\zoJ r
theorem zoJ.get:∀{l:List (FW)} (k:Nat),zoJ l->zkv (l.getD k λ_ _=>True)
 |[],_,_=>λ_ _ _ _ _=>trivial
 |_ :: _,0,h=>h.1
 |_ :: r,k+1,h=>zoJ.get (l:=r) k h.2
theorem ziw:∀{ds:LN} (_:ds.Nodup) {i k:Nat} (_:i<ds.length) (_:k<ds.length) (_:ds.getD i 0=ds.getD k 0),i=k:=by
 intro ds hnd i k hi hk h;rw[List.getD_eq_getElem?_getD,List.getD_eq_getElem?_getD,gE hi,gE hk]at h;simp only[Option.getD_some]at h;exact(List.getElem_inj hnd).1 h
theorem yA:(∀Fs ds T W,zcr Fs ds T W []=True)/\(∀Fs ds T W k r,zcr Fs ds T W (k::r)=((Fs.getD k fun _ _=>True) W (T (ds.getD k 0))/\zcr Fs ds T W r))/\
 (∀md o,zaV md o=o.after.toList.filterMap fun e=>if Region.binds md e then some e.on else none)/\(∀f:Edge->Option Nat,List.filterMap f []=[])/\(∀(f:Edge->Option Nat) a l,List.filterMap f (a::l)=match f a with|none=>List.filterMap f l|some b=>b::List.filterMap f l)/\
 (∀a b:Option Nat,(if True then a else b)=a)/\(∀a b:Option Nat,(if False then a else b)=b)/\((Region.Mode.any==Region.Mode.text)=false)/\((Region.Mode.any==Region.Mode.gc)=false)/\((false=true)=False)/\(∀(x:FW) l d,(x::l).getD 0 d=x)/\(∀(x:FW) l k d,(x::l).getD (k+1) d=l.getD k d)/\(∀(x:Nat) l d,(x::l).getD 0 d=x)/\(∀(x:Nat) l k d,(x::l).getD (k+1) d=l.getD k d):=
 ⟨fun _ _ _ _=>rfl,fun _ _ _ _ _ _=>rfl,fun _ _=>rfl,fun _=>rfl,fun f a l=>by rw[List.filterMap_cons];cases f a<;>rfl,fun _ _=>if_pos trivial,fun _ _=>if_neg id,rfl,rfl,sM,fun _ _ _=>rfl,fun _ _ _ _=>rfl,fun _ _ _=>rfl,fun _ _ _ _=>rfl⟩
theorem tV{p:Prop}(h:p:=by rintro T W hb hA K hK;simp only[yA,Region.binds]at hA;simp only[sA,hA]at hK|-;have HK:=hii hK;clear hK hA;refine wO rfl ?_;go_simp;exact HK.o _ _ br (rfl)):p:=h
theorem tU{p:Prop}(h:p:=by rintro T W hb hA K hK;simp only[yA,Region.binds]at hA;simp only[sA,hA]at hK|-;have HK:=hii hK;clear hK hA;refine zaT rfl rM ?_;simp only[Act.put,List.setIfInBounds_toArray];exact HK.o _ _ br (rfl)):p:=h
theorem zae{id:Nat}{a:Act}{w wx:Wo}(Fs:List (FW))(ds:LN)

  (hw:BH wx w) (hS:zoJ Fs)
  (hs:zaO (λi o=>∀(T:Nat->Vl)(W:Wo),BH wx W->zcr Fs ds T W (zaV .any o) ->
   ∀K:Act->Wo->Prop,(∀v W',BH W W'->(Fs.getD i λ_ _=>True) W' v->K (({a with tmps:=ovr a.tmps T ds}:Act).put o.dst v) W') ->
    wpOp P ops Q i K {a with tmps:=ovr a.tmps T ds} W) 0 ops.toList)
  (he:∀T W,BH wx W->zcr Fs ds T W (List.range ops.size)->Q .normal {a with tmps:=ovr a.tmps T ds} W)
  (hm:P.follows .mixedOrders=true:=by kernel_rfl) (ht:zkF .any ops=true:=by kernel_rfl) (hd:ops.toList.map (·.dst)=ds.map some:=by kernel_rfl) (hnd:ds.Nodup:=by exact of_decide_eq_true (by kernel_rfl)):(Code.region id ops true).wp P Q a w:=by
 have hlen:ds.length=ops.size:=by
  have:=congrArg List.length hd;simp at this;exact this.symm
 have hdst:∀(i:Nat)(o:Oper),ops[i]?=some o->i<ds.length/\o.dst=some (ds.getD i 0):=by
  intro i o ho;have hi:i<ops.size:=(Array.getElem?_eq_some_iff.1 ho).1;refine⟨oM,?_⟩;have h1:(ops.toList.map (·.dst))[i]?=some o.dst:=by simp[ho]
  rw[hd,List.getElem?_map,gE oM]at h1;simp only[Option.map_some,Option.some.injEq]at h1;rw[<-h1,List.getD_eq_getElem?_getD,gE oM]
  rfl
 refine zcv (λL T W=>BH wx W/\∀k,k<ops.size->L k->(Fs.getD k λ_ _=>True) W (T (ds.getD k 0))) ds hm ht ?_ (λT=>⟨hw.drew,λk _ h=>h.elim⟩) ?_ ?_ ?_
 ·unfold znH;have:∀(l:List Oper)(ds:LN),l.map (·.dst)=ds.map some->l.filterMap (·.dst)=ds:=by
   intro l
   induction l with
   |nil=>intro ds h;cases ds<;>simp_all
   |cons o r ih=>
    intro ds h
    cases ds with
    |nil=>simp at h
    |cons d ds=>
     simp only[List.map_cons,List.cons.injEq]at h;rw[List.filterMap_cons_some h.1,ih ds h.2]
  exact this _ _ hd
 ·have key:∀(l:List Oper)(k:Nat),(∀j o,l[j]?=some o->ops[k+j]?=some o) ->
    zaO (λi o=>∀(T:Nat->Vl)(W:Wo),BH wx W->zcr Fs ds T W (zaV .any o) ->
     ∀K:Act->Wo->Prop,(∀v W',BH W W'->(Fs.getD i λ_ _=>True) W' v->K (({a with tmps:=ovr a.tmps T ds}:Act).put o.dst v) W') ->
      wpOp P ops Q i K {a with tmps:=ovr a.tmps T ds} W) k l ->
    zaO (λi o=>∀(L:Nat->Prop)(T:Nat->Vl)(w:Wo),zea L (zaV .any o)->¬L i->(BH wx w/\∀k,k<ops.size->L k->(Fs.getD k λ_ _=>True) w (T (ds.getD k 0))) ->
     ∀K:Act->Wo->Prop,(∀v w',(BH wx w'/\∀k,k<ops.size->(k=i\/L k)->(Fs.getD k λ_ _=>True) w' (zcw T o.dst v (ds.getD k 0)))->K (({a with tmps:=ovr a.tmps T ds}:Act).put o.dst v) w') ->
      wpOp P ops Q i K {a with tmps:=ovr a.tmps T ds} w) k l:=by
   intro l
   induction l with
   |nil=>intro k _ _;trivial
   |cons o r ih=>
    intro k hin h;refine⟨?_,ih (k+1) (λj o' ho=>by have:=hin (j+1) o' (by simpa using ho);rw[show k+1+j=k+(j+1) by omega];exact this) h.2⟩;rintro L T W hL hn⟨hb,hJ⟩K hK;have hko:ops[k]?=some o:=by simpa using hin 0 o rfl
    obtain⟨hkl,hkd⟩:=hdst k o hko;have hall:∀d,d∈zaV .any o->L d:=by
     have:∀l:LN,zea L l->∀d,d∈l->L d:=by
      intro l
      induction l with
      |nil=>intro _ d hd;simp at hd
      |cons x r ih=>
       intro h d hd;rcases List.mem_cons.1 hd with rfl|hd
       ·exact h.1
       ·exact ih h.2 d hd
     exact this _ hL
    refine h.1 T W hb (zcr.mem λd hdw=>hJ d (Nat.lt_trans (zca ht hko hdw) oM) (hall d hdw)) K λv W' hb' hv=>hK v W' ⟨hb.trans (hb'.mono hb.size),?_⟩
    rintro j hj (rfl|hLj)
    ·rw[hkd];simp only[zcw,upd,if_true];exact hv
    ·have hne:ds.getD j 0≠ds.getD k 0:=λe=>by
      have:=ziw hnd oM hkl e;subst this;exact hn hLj
     rw[hkd];simp only[zcw,upd,if_neg hne];exact hS.get j _ _ _ (hJ j hj hLj) hb'
  exact key ops.toList 0 (λj o ho=>by simpa using ho) hs
 ·rintro T W⟨hb,hJ⟩;exact he T W hb (zcr.mem λk hk=>hJ k (by simpa using hk) (by simpa using hk))
 ·rintro L T W hL⟨hb,hJ⟩;exact⟨hb,λk hk _=>hJ k hk (hL k hk)⟩
end
end Go
namespace Go.Proofs.YtfgffkmddanjjaaGreatDoor
open _root_.Go.Proofs.Tryz
open Go.RowKit
structure zpV(R:FW):Prop where
 mono:∀{W W':Wo} {v:Vl},R W v->BH W W'->R W' v
 put:∀{W:Wo} {n:Nat} {v x y:Vl},R W v->Box W n bF_ nS_->R ((W.setCell (aD_ n 0) x).setCell (aD_ n 1) y) v
def zoy(W:Wo)(base:Nat)(R:FW)(st:Prop)(p:Vl):Prop :=
 ∃b,p=pT b 0/\base<=b/\b<W.heap.size/\(st->∃x y,Box W b x y/\R W (.agg #[x,y]))/\(¬st->Box W b bF_ nS_)
theorem zoy.mono{W W':Wo}{base:Nat}{R:FW}{st:Prop}{p:Vl}(hR:zpV R)(h:zoy W base R st p)(hb:BH W W'):zoy W' base R st p:=by
 obtain⟨b,e,h1,h2,h3,h4⟩:=h;exact⟨b,e,h1,Nat.lt_of_lt_of_le h2 hb.size,λs=>by obtain⟨x,y,B,hr⟩:=h3 s;exact⟨x,y,B.mono hb,hR.mono hr hb⟩,λs=>(h4 s).mono hb⟩
def zox(W:Wo)(v:Vl):Prop:=∃z,zai W v z
theorem zox.parts{W:Wo}{v:Vl}(h:zox W v):∃(ng:Bool)(ao:OA)(n cap:Nat),v=.agg #[.bool ng,.slice ao n cap]:=by obtain⟨z,h⟩:=h;exact h.parts
end Go.Proofs.YtfgffkmddanjjaaGreatDoor
namespace Bi
open Go.Lib (decDigits nDigits)
def zgZ:Nat->Nat->List UInt8
 |0,_=>[]
 |k+1,x=>zgZ k (x / 10)++[UInt8.ofNat (48+x % 10)]
theorem zgf:∀(k n x:Nat),0<n->x<10 ^ k->decDigits (n*10 ^ k+x)=decDigits n++zgZ k x
 |0,n,x,_,h=>by
  have:x=0:=by simpa using h
  subst this;simp[zgZ]
 |k+1,n,x,hn,h=>by
  have h1:10<=n*10 ^ (k+1):=by
   have h2:1<=10 ^ k:=Nat.one_le_pow _ _ dM;have h3:1*10<=n*10 ^ (k+1):=Nat.mul_le_mul hn (by rw[Nat.pow_succ];omega);omega
  rw[decDigits,dif_neg oM];have e1:(n*10 ^ (k+1)+x) / 10=n*10 ^ k+x / 10:=by
   rw[Nat.pow_succ,<-Nat.mul_assoc];omega
  have e2:(n*10 ^ (k+1)+x) % 10=x % 10:=by
   rw[Nat.pow_succ,<-Nat.mul_assoc];omega
  rw[e1,e2,zgf k n (x / 10) hn (by rw[Nat.pow_succ]at h;omega),List.append_assoc]
  rfl
theorem zeB:∀(k:Nat),zgZ k 0=List.replicate k 48
 |0=>rfl
 |k+1=>by
  rw[zgZ,Nat.zero_div,zeB k,List.replicate_succ']
  rfl
theorem zf6:∀(k x:Nat),1<=k->x<10 ^ k->List.replicate (k-nDigits x) 48++decDigits x=zgZ k x
 |0,_,h,_=>by omega
 |k+1,x,_,h=>by
  by_cases hx:x<10
  ·rw[Go.Lib.nDigits_small hx,Go.Lib.decDigits_one hx,Nat.add_sub_cancel,zgZ,Nat.div_eq_of_lt hx,zeB,Nat.mod_eq_of_lt hx]
  ·have hk:1<=k:=by
    apply Nat.le_of_not_lt;intro h0
    have:k=0:=oM;subst this;simp at h;omega
   rw[Go.Lib.nDigits_big hx,decDigits,dif_neg hx,Nat.add_sub_add_right,<-List.append_assoc,zf6 k (x / 10) hk (by rw[Nat.pow_succ]at h;omega)]
   rfl
theorem zlq{n x:Nat}(hn:0<n)(hx:x<1000000000):decDigits (x+1000000000*n)=decDigits n++(List.replicate (9-nDigits x) 48++decDigits x):=by
 rw[zf6 9 x oM (by simpa using hx),<-zgf 9 n x hn (by simpa using hx)]
 congr 1
 omega
theorem zgc{L:LN}{i x:Nat}(hi:i<L.length)(hx:L.getD i 0=x):val (L.drop i)=x+1000000000*val (L.drop (i+1)):=by
 rw[List.drop_eq_getElem_cons hi];rw[List.getD_eq_getElem?_getD,gE hi]at hx;simp only[Option.getD_some]at hx;rw[hx];simp[val]
theorem zln{n:Nat}{L:LN}(h:L=limbs n){j:Nat}(hj:j<L.length):0<val (L.drop j):=by
 rcases List.eq_nil_or_concat L with h0|⟨r,x,h0⟩
 ·subst h0;simp at hj
 ·rw[List.concat_eq_append]at h0;subst h0;obtain⟨_,hx,_⟩:=dlen_limbs h;rw[List.drop_append_of_le_length (by simp at hj;omega),val_snoc];have:0<1000000000 ^ (r.drop j).length*x:=Nat.mul_pos (Nat.pow_pos dM) oM;omega
def outT(L:LN)(j:Nat):List UInt8:=if j<L.length then decDigits (val (L.drop j))else []
theorem outT_len{L:LN}(h:val L<Big)(j:Nat):(outT L j).length<=300:=by
 unfold outT
 split
 ·rw[Go.Lib.decDigits_length];have h1:val (L.drop j)<=val L:=by
   clear h
   induction j generalizing L with
   |zero=>simp
   |succ i ih=>
    cases L with
    |nil=>simp
    |cons x r=>
     have:=ih (L:=r) (by rename_i h;simpa using h);simp only[List.drop_succ_cons,val];omega
  by_cases h0:val (L.drop j)=0
  ·rw[h0,Go.Lib.nDigits_small dM];decide
  ·have h3:∀a k:Nat,k=a+a->10 ^ a*10 ^ a=10 ^ k:=λa k hk=>by rw[hk,Nat.pow_add]
   obtain⟨k,hk⟩:∃k:Nat,k=300:=⟨_,rfl⟩;rw[<-hk];exact(nd_le h0).2 (Nat.lt_of_le_of_lt h1 (Nat.lt_of_lt_of_eq h (h3 150 k oM)))
 ·simp
theorem outT_last{L:LN}{j z:Nat}(hj:j+1=L.length)(hz:L.getD j 0=z):outT L j=outT L (j+1)++decDigits z:=by
 unfold outT;rw[if_pos oM,if_neg oM,zgc oM hz,List.drop_eq_nil_of_le oM];simp[val]
theorem outT_step{n:Nat}{L:LN}(h:L=limbs n){j z:Nat}(hj:j+1<L.length)(hz:L.getD j 0=z)(hz9:z<1000000000):outT L j=outT L (j+1)++(List.replicate (9-nDigits z) 48++decDigits z):=by
 unfold outT;rw[if_pos oM,if_pos hj,zgc oM hz,zlq (zln h hj) hz9]
end Bi
namespace Go.Proofs.YtfgffkmddanjjaaGreatDoor
open _root_.Go.Proofs.Tryz
open Go.RowKit
theorem zdp{T e:TypeId}{B b:Nat}{p:Vl}{bs:List Vl}{w w':Wo}(h:Lib.BuilderAtF T e B b p bs w)(hb:BH w w'):Lib.BuilderAtF T e B b p bs w':=by
 have hlt:=h.lt;obtain⟨hB,v,hbk,hown,hne⟩:=h;refine⟨hB,v,by rw[hb.block b hlt];exact hbk,?_,hne⟩;obtain⟨h1,h2⟩:=hown;refine⟨h1,h2.imp id ?_⟩;rintro⟨g,cap,cur,fz,hv,hg,hh,r⟩;have:g<w.heap.size:=by
  by_cases hb:g<w.heap.size
  ·exact hb
  ·rw[Array.getElem?_eq_none oM]at hh;simp at hh
 exact⟨g,cap,cur,fz,hv,hg,by rw[hb.block g this];exact hh,r⟩
theorem zcA{T e:TypeId}{B b:Nat}{bs:List Vl}{w w':Wo}(h:Lib.IsBuilderF T e B b bs w)(hb:BH w w'):Lib.IsBuilderF T e B b bs w' :=
 h.imp (λh=>zdp h hb) (λh=>zdp h hb)
theorem zds(a b:List UInt8):Lib.byteCells (a++b)=Lib.byteCells a++Lib.byteCells b:=by simp[Lib.byteCells]
theorem zgL(c:Nat):Lib.repeatL [48] c=List.replicate c 48:=by
 induction c with
 |zero=>rfl
 |succ c ih=>simp[Lib.repeatL,ih,List.replicate_succ]
theorem zfg(x:Nat):Lib.itoa (x:Int)=Lib.decDigits x:=by
 unfold Lib.itoa;rw[if_neg oM,Int.toNat_natCast]
theorem zmv(c:Nat)(C:Int)(hC:C=(c:Int))(hc:c<=1000)(w:Wo) :
  CP 191 #[.string ⟨#[48]⟩,.int .i64 C] w λe w'=>e=.returned (.string ⟨(List.replicate c 48).toArray⟩)/\BH w w':=by
 subst hC;have:=Tryz.strings_Repeat ⟨#[48]⟩ c w oM (by show 1*c<=_;omega);rw[show(⟨#[48]⟩:ByteArray).data.toList=[48]from rfl,zgL]at this;exact this
theorem zdF(B:Nat)(cur s:List UInt8)(w:Wo)(h:Lib.IsBuilderF 205 5 B B (Lib.byteCells cur) w)(hc:cur.length<=100000)(hs:s.length<=100000)(hB:B<=w.heap.size) :
  CP 190 #[pT B 0,.string ⟨s.toArray⟩] w λe w'=>e=.returned (.tuple #[.int .i64 s.length,.nilIface])/\Lib.IsBuilderF 205 5 B B (Lib.byteCells (cur++s)) w'/\Below B w w':=by
 have hsz:(⟨s.toArray⟩:ByteArray).size=s.length:=rfl;refine(Tryz.Builder_WriteString_k B B (Lib.byteCells cur) ⟨s.toArray⟩ w h (by rw[Lib.byteCells_length,hsz];omega) hB).mono ?_;rintro e w'⟨he,hb,hw,_⟩;rw[hsz]at he;refine⟨he,.inr ?_,hw⟩;rw[zds];exact hb
theorem ziR(a:Vl)(x:Int)(w:Wo)(ha:zai w a x)(hE:Env w) :
  CP 187 #[a] w λe w'=>e=.returned (.tuple #[.string ⟨(Lib.itoa x).toArray⟩,.int .i64 0])/\BH w w':=by
 obtain⟨n1,ao1,L1,c1,rfl,Hn1,HL1,HB1,hc1,hl1,hU1⟩:=id ha;go_enter func187,ntmps187;go_wp2_with fail;have hbx:=bA w (.cells #[.bool n1,.slice ao1 L1.length c1] 30);have B1:=Box.new w (.bool n1) (.slice ao1 L1.length c1) 30;have hsz:(w.alloc (.cells #[.bool n1,.slice ao1 L1.length c1] 30)).heap.size=w.heap.size+1:=sM;have hUx:=hU1.mono hbx;have hEx:=hE.mono hbx;clear hU1 hE ha;generalize w.alloc (.cells #[.bool n1,.slice ao1 L1.length c1] 30)=wx at*;(with_reducible refine(zok wx _ hsz n1 ao1 L1 c1 hUx ?_ hEx).mono ?_)
 ·omega
 rintro e w1⟨⟨r,HR,HR2,rfl⟩,hb1⟩;obtain rfl:r=0:=HR.o.2 (zaC x n1 L1 Hn1.o HL1.o HB1.o);clear HR HR2 hsz;have B1:=B1.mono hb1;have hU1:=hUx.mono hb1;have hE1:=hEx.mono hb1;have hbw:=bu hbx hb1;clear hUx hEx hbx hb1;have hlt:=B1.lt;have Hit:Hid (Lib.itoa x=(if n1=true then [45]else [])++Lib.decDigits x.natAbs):=hii (by
  unfold Lib.itoa;rw[Hn1.o]
  by_cases h:x<0
  ·simp[h]
  ·simp[h,show x.toNat=x.natAbs by omega])
 by_cases hL:L1=[]
 ·subst hL;have hx:x.natAbs=0:=by
   have:=congrArg Bi.val HL1.o;rw[Bi.val_limbs]at this;exact this.symm
  have hx0:x=0:=oM;subst hx0;have hz:Hid (Lib.itoa 0=[48]):=hii (by
   unfold Lib.itoa;rw[if_neg dM,show Int.toNat 0=0 from rfl,Lib.decDigits_one dM]
   rfl)
  obtain⟨p0,p1,_,_⟩:=B1;clear Hit hx hU1;go_wp2;go_ret2;exact⟨by rw[hz.o];rfl,hbw⟩
 have hlen:1<=L1.length:=by
  have:=List.length_pos_iff.2 hL;omega
 have HV:Hid (Bi.val L1=x.natAbs):=hii (by rw[HL1.o,Bi.val_limbs]);have HOK:Hid (Bi.Ok L1):=hii (by rw[HL1.o];exact Bi.limbs_ok _);have HLen:Hid (∀j,(Bi.outT L1 j).length<=300):=hii (Bi.outT_len (by rw[HV.o];exact HB1.o));clear hL;obtain⟨pre,hpre⟩:∃pre:List UInt8,pre=if n1=true then [45]else []:=⟨_,rfl⟩
 have HPL:pre.length<=1:=by rw[hpre];split<;>simp
 rw[<-hpre]at Hit;have HPre:=hii hpre;clear hpre;obtain⟨p0,p1,_,_⟩:=id B1;go_upto_region 7 with fail;have HIB:=Lib.IsBuilderF.of (Lib.fresh_isBuilder 205 5 w1);have hba:=bA w1 (.cells #[.pointer none,nS_] 205);obtain⟨B,hB⟩:=exi (w1.heap.size);rw[<-hB]at HIB|-;have hBw:B<=(w1.alloc (.cells #[.pointer none,nS_] 205)).heap.size:=by rw[hB];exact hba.size
 have hbB:Below B w1 (w1.alloc (.cells #[.pointer none,nS_] 205)):=by rw[hB];exact hba
 rw[<-hB]at hlt;have HS:Hid (∀W,Below B w1 W->Env W/\U W ao1 L1/\Box W w.heap.size (.bool n1) (.slice ao1 L1.length c1)/\B<=W.heap.size):=hii (λW h=>by
  have h':=h;rw[hB]at h';exact⟨hE1.mono h',hU1.mono h',B1.mono h',by rw[hB];exact h'.size⟩)
 have hw1:=hbw;clear hB;generalize w1.alloc (.cells #[.pointer none,nS_] 205)=w2 at*;have B2:=B1.mono hba;clear hE1 hU1 B1 hbw p0 p1 hba;obtain⟨p0,p1,_,_⟩:=id B2;go_upto_if 19 with fail;go_cut [] (λwc=>Lib.IsBuilderF 205 5 B B (Lib.byteCells pre) wc/\Below B w2 wc)
 case first=>
  have HP:=HPre.o
  cases n1
  ·simp only[Bool.false_eq_true,if_false]at HP;have HP':=hii HP;clear HP;go_wp2_with fail;go_meet;exact⟨by rw[HP'.o];exact HIB,br⟩
  ·simp only[if_true]at HP;have HP':=hii HP;clear HP;go_wp2_with fail;go_fit (Tryz.Builder_WriteByte_k B B [] 45 _ HIB sM hBw);rintro e w3⟨rfl,hbl,hb3,_⟩;go_wp2_with fail;go_meet;exact⟨by rw[HP'.o];exact .inr hbl,hb3⟩
 case rest=>
  obtain⟨HB0,hb3⟩:=hcut;have hb2:=hbB.trans hb3;clear hb3 hbB HIB hBw B2 p0 p1;obtain⟨hEc,hUc,hBc,hsc⟩:=HS.o wc hb2;obtain⟨p0,p1,_,_⟩:=hBc;clear hEc hUc hsc;go_wp2_with fail;clear p0 p1;go_loopw [6,7] (λs6 _ wr=>∃i:Int,-1<=i/\i<L1.length/\s6=.int .i64 i/\Lib.IsBuilderF 205 5 B B (Lib.byteCells (pre++Bi.outT L1 (i+1).toNat)) wr/\Below B w1 wr) (λs6 _ _=>(intOf s6+1).toNat)
  case atStart=>
   refine⟨(L1.length:Int)-1,oM,oM,rfl,?_,hb2⟩;have h1:((L1.length:Int)-1+1).toNat=L1.length:=oM;rw[h1];unfold Bi.outT;rw[if_neg oM,List.append_nil];exact HB0
  case round=>
   obtain⟨i,hi1,hi2,rfl,HBi,hbr⟩:=hrel;obtain⟨hEr,hUr,hBr,hsr⟩:=HS.o wr hbr;obtain⟨p0,p1,_,_⟩:=hBr
   by_cases hi:i<0
   ·obtain rfl:i=-1:=oM;clear hEr hUr HB0 hb2;go_wp2_with fail;go_fit (Tryz.Builder_String_any_f B B (pre++Bi.outT L1 ((-1:Int)+1).toNat) _ HBi hsr);rintro e w4⟨rfl,_,hb4⟩;have HR:Hid (pre++Bi.outT L1 ((-1:Int)+1).toNat=Lib.itoa x):=hii (by
     rw[Hit.o,show((-1:Int)+1).toNat=0 from rfl];unfold Bi.outT;rw[if_pos oM,List.drop_zero,HV.o])
    have hfin:=hw1.trans ((hbr.trans hb4).mono (Nat.le_of_lt hlt));clear HBi p0 p1;go_wp2;go_ret2;exact⟨by rw[<-HR.o];rfl,hfin⟩
   ·obtain⟨j,rfl⟩:∃j:Nat,i=(j:Int):=⟨i.toNat,oM⟩;obtain⟨z,hz⟩:=zal (l:=L1) (k:=j) oM;obtain⟨b1,o1,rfl,hcz⟩:=hUr.at' hz;have bz:=HOK.o.at' hz;have HZ:=hii (Bi.getD_of hz);clear hz hUr HB0 hb2;go_wp2_with fail;go_fit (zhP (z:Int) oM oM _ hEr);rintro e w3⟨rfl,hb3⟩;have HB3:=zcA HBi hb3;have hbr3:=hbr.trans (hb3.mono hsr);obtain⟨hE3,_,hBr3,hs3⟩:=HS.o w3 hbr3;clear HBi hb3 hbr hEr hsr p0 p1 hcz;obtain⟨p0,p1,_,_⟩:=hBr3;have hjj:((j:Int)+1).toNat=j+1:=oM;rw[hjj]at HB3;have hl9:=Bi.nd_small bz;have hlz:=Go.Lib.decDigits_length z;have HO:=HLen.o (j+1);obtain⟨cur,hcur⟩:∃cur,cur=Bi.outT L1 (j+1):=⟨_,rfl⟩;rw[<-hcur]at HB3 HO;have hlc:(pre++cur).length<=301:=by rw[List.length_append];omega
    by_cases hj:j+1<L1.length
    ·have hst:=Bi.outT_step HL1.o hj HZ.o bz;rw[zfg];rw[<-hlz,<-hcur]at hst;generalize Lib.decDigits z=S at*;have HST:=hii hst;have hS9:S.length<=9:=oM;have hc1:(j:Int)<(L1.length:Int)-1:=oM;clear hst hcur hlz hl9 hjj HO;go_wp2_with fail;go_fit (zmv (9-S.length) _ oM oM w3);rintro e w4⟨rfl,hb4⟩;have HB4:=zcA HB3 hb4;have hbr4:=hbr3.trans (hb4.mono hs3);have hs4:=(HS.o w4 hbr4).2.2.2;clear HB3 hb4 hbr3 hs3 p0 p1 hE3;have hzl:(List.replicate (9-S.length) (48:UInt8)).length<=9:=sM;generalize List.replicate (9-S.length) (48:UInt8)=Z at*;go_wp2_with fail;go_fit (zdF B (pre++cur) Z w4 HB4 oM oM hs4);rintro e w5⟨rfl,HB5,hb5⟩;have hbr5:=hbr4.trans hb5;have hs5:=(HS.o w5 hbr5).2.2.2;have hlc5:(pre++cur++Z).length<=310:=by rw[List.length_append];omega
     clear HB4 hb5 hbr4 hs4;go_wp2_with fail;go_fit (zdF B (pre++cur++Z) S w5 HB5 oM oM hs5);rintro e w6⟨rfl,HB6,hb6⟩;have hbr6:=hbr5.trans hb6;clear HB5 hb6 hbr5 hs5;go_wp2;go_roundw
     case rel=>exact⟨(j:Int)-1,oM,oM,rfl,by rw[show((j:Int)-1+1).toNat=j by omega,HST.o];simpa [List.append_assoc]using HB6,hbr6⟩
     case measure=>simp[intOf]
    ·have hst:=Bi.outT_last (show j+1=L1.length by omega) HZ.o;rw[zfg];rw[<-hcur]at hst;generalize Lib.decDigits z=S at*;have HST:=hii hst;have hS9:S.length<=9:=oM;have hc1:¬(j:Int)<(L1.length:Int)-1:=oM;clear hst hcur hlz hl9 hjj HO;go_wp2_with fail;go_fit (zdF B (pre++cur) S w3 HB3 oM oM hs3);rintro e w6⟨rfl,HB6,hb6⟩;have hbr6:=hbr3.trans hb6;clear HB3 hb6 hbr3 hs3 p0 p1 hE3;go_wp2;go_roundw
     case rel=>exact⟨(j:Int)-1,oM,oM,rfl,by rw[show((j:Int)-1+1).toNat=j by omega,HST.o];simpa [List.append_assoc]using HB6,hbr6⟩
     case measure=>simp[intOf]
end Go.Proofs.YtfgffkmddanjjaaGreatDoor
namespace Bi
open Go.Lib (decDigits nDigits itoa)
end Bi
namespace Bi
def Sm(x:Nat):Prop:=x<1000000000
end Bi
namespace Go.Proofs.YtfgffkmddanjjaaGreatDoor
open _root_.Go.Proofs.Tryz
open Go.RowKit
def zmc(w':Wo)(neg:Bool)(t s:List UInt8)(e:Ending):Prop :=
 ∃(ng:Bool)(ao:OA)(n cap:Nat)(k:Int),e=.returned (.tuple #[.agg #[.bool ng,.slice ao n cap],.int .i64 k]) /\
  Hid (((∀b∈t,Bi.isDig b)/\t≠[]/\t.length<=300/\Lib.itoa (sgn neg (Bi.decVal t))=s/\zai w' (.agg #[.bool ng,.slice ao n cap]) (sgn neg (Bi.decVal t))/\k=0) \/
   (¬((∀b∈t,Bi.isDig b)/\t≠[]/\t.length<=300/\Lib.itoa (sgn neg (Bi.decVal t))=s)/\ng=false/\ao=none/\n=0/\cap=0/\k=2))
theorem zmc.err{w':Wo}{neg:Bool}{t s:List UInt8}(h:¬((∀b∈t,Bi.isDig b)/\t≠[]/\t.length<=300/\Lib.itoa (sgn neg (Bi.decVal t))=s)) :
  zmc w' neg t s (.returned (.tuple #[.agg #[bF_,nS_],.int .i64 2])) :=
 ⟨false,none,0,0,2,rfl,hii (.inr ⟨h,rfl,rfl,rfl,rfl,rfl⟩)⟩
end Go.Proofs.YtfgffkmddanjjaaGreatDoor
namespace Bi
open Go.Lib (decDigits nDigits itoa)
end Bi
