/-
  The reference: the load of a strategy.
-/
import Derived.Test.YtfgffkmddanjjaaGreatDoorNa
set_option linter.unusedVariables false
set_option linter.unusedSimpArgs false
set_option maxRecDepth 100000
set_option maxHeartbeats 25600000
namespace Go.Proofs.YtfgffkmddanjjaaGreatDoor
open _root_.Go.Proofs.Tryz
open Go.RowKit
theorem zjK{α:Type}(p:α->Bool)(l:List α):decide (zeC p l<0)=!l.any p:=by
 rw[<-zdA,Bool.eq_iff_iff];simp
theorem zkZ(R S:LN)(f:Rat)(cap:List Rat)(m:Nat)(HW:Hid (WkM R S f cap m))(L:List ((Nat×Nat)×Qo))(aR aS aC aL:OA)(cR cS cC cL:Nat){J1:Bool}{ao1:OA}{n1 Y1:Nat}{K1:Bool}{ap1:OA}{m1 Z1:Nat}(w:Wo)(hL:L.length<=1000)(uR:zaF w aR R)(uS:zaF w aS S)(hf:zad w (qA J1 ao1 n1 Y1 K1 ap1 m1 Z1) f)(uC:UQ w aC (cap.map some))(uL:EU 6 zaL w aL L)(hE:Env w)
  (HA:Hid (∀k x,(L.map (·.2))[k]?=some (some x)->zcI (zbc (((L.map (·.2)).take k).map zeb)) x))(Hsz:Hid (L.any (zaX R S)=false->zav (L.map (·.2))=0->∃sh,L=shQ sh/\OfS f cap sh)) :
  CP 24 #[.slice aR R.length cR,.slice aS S.length cS,.agg #[.bool J1,.slice ao1 n1 Y1,.bool K1,.slice ap1 m1 Z1],.slice aC cap.length cC,.slice aL L.length cL] w λe w'=>OfR R S f cap L w' e/\BH w w':=by
 have hbw:=Below.refl w.heap.size w;have hRl:=HW.o.fR.len.2;have hSl:=HW.o.fS.len.2;have HSB:=hii (kb1.subS HW.o.fK dM);have hm:=HW.o.hm;have h16:=hii (And.intro (HW.o.fR.s16 oM) (HW.o.fS.s16 oM));have HErr:=hii (λw a b c d e=>zjt R S f cap m HW aR aS aC cR cS cC w a b (c:zad w (qA J1 ao1 n1 Y1 K1 ap1 m1 Z1) f) d e);have hc:=hii HW.o.lc;have hpc:=hii HW.o.pc;have HPt:=hii (λw a b=>zgH L aL cL w hL a HA b);clear HA HW;rw[hc.o]at HErr|-;obtain⟨N,hN⟩:∃N,L.length=N:=⟨_,rfl⟩;have HN:=hii hN;rw[hN]at hL HPt|-;clear hN;go_enter func24,ntmps24;go_upto_region 1 with fail;obtain⟨wx,hwx,rf,r4,hb⟩:=zaH w 32 32 [.bool J1,.slice ao1 n1 Y1,.bool K1,.slice ap1 m1 Z1] [bF_,nS_,bF_,nS_];simp only[List.toArray]at hwx;rw[<-hwx];clear hwx;obtain⟨wA,rfl⟩:=exi wx;obtain⟨g4,hg4⟩:=exi (w.heap.size+1);have Hg4:Hid (w.heap.size<=g4):=hii oM;rw[<-hg4]at r4|-;clear hg4;obtain⟨gf,hgf⟩:=exi (w.heap.size);have Hgf:Hid (w.heap.size<=gf):=hii oM;rw[<-hgf]at rf|-;clear hgf;have uR:=uR.mono hb;have uS:=uS.mono hb;have hf:=hf.mono hb;have uC:=uC.mono hb;have hE:=hE.mono hb;have uL:=uL.mono zag hb;have hbw:=bu hbw hb;clear hb;obtain⟨k0,k1,k2,k3⟩:=rf.n4;go_wp2_with fail;go_fit (HErr.o wA uR uS hf uC hE);rintro e wB⟨rfl,hb⟩;have uR:=uR.mono hb;have uS:=uS.mono hb;have hf:=hf.mono hb;have uC:=uC.mono hb;have hE:=hE.mono hb;have rf:=rf.below hb;have r4:=r4.below hb;have uL:=uL.mono zag hb;have hbw:=bu hbw hb;clear hb;clear HErr k0 k1 k2 k3;go_wp2_with fail;go_loopw [13] (λs wr=>∃k:Nat,k<=N/\s=.int .i64 k/\Hid ((L.take k).any (zaX R S)=false)/\Hid (BH wB wr)) (λs _=>N-(intOf s).toNat)
 case atStart=>exact⟨0,Nat.zero_le _,rfl,hii sM,hii br⟩
 case round=>
  obtain⟨k,hk,rfl,HB,Hbk⟩:=hrel;have HbB:=Hbk;have hb:=Hbk.o;have uR:=uR.mono hb;have uS:=uS.mono hb;have hf:=hf.mono hb;have uC:=uC.mono hb;have hE:=hE.mono hb;have rf:=rf.below hb;have r4:=r4.below hb;have uL:=uL.mono zag hb;clear hb Hbk
  by_cases hlt:k<N
  ·obtain⟨⟨⟨r,s⟩,o⟩,hx⟩:∃x,L[k]?=some x:=⟨L[k]'(by rw[HN.o];exact hlt),gE _⟩;obtain⟨b1,off1,J3,ao3,n3,Y3,K3,ap3,m3,Z3,ea,hv,h0,h1,h2,h3,h4,h5⟩:=uL.six hx;have HT:Hid ((L.take (k+1)).any (zaX R S)=zaX R S ((r,s),o)):=hii (by rw[zaw hx,List.any_append,HB.o];simp);have HM:=hii (List.mem_of_getElem? hx);have hkN:(k:Int)<(N:Int):=oM;have HPR:=hii (zdj R r aR cR wr oM uR);have HPS:=hii (λw u=>zdj S s aS cS w oM u);obtain⟨iR,hiR⟩:∃i,zeC (λy=>decide (y=r)) R=i:=⟨_,rfl⟩;obtain⟨iS,hiS⟩:∃i,zeC (λy=>decide (y=s)) S=i:=⟨_,rfl⟩;obtain⟨z,hz⟩:∃z,zaX R S ((r,s),o)=z:=⟨_,rfl⟩;have HZ:Hid (z=(decide (iR<0) || decide (iS<0))):=hii (by rw[<-hz,<-hiR,<-hiS,zjK,zjK];rfl);rw[hiR]at HPR;rw[hiS]at HPS;have HY:Hid (z=true->L.any (zaX R S)=true):=hii λh=>List.any_eq_true.2 ⟨_,HM.o,by rw[hz,h]⟩
   rw[hz]at HT;subst ea;clear hx hv h2 h3 h4 h5 hiR hiS hz HB HM;go_wp2_with fail;(with_reducible refine HPR.o.mono ?_);rintro e we⟨rfl,hb⟩;have h1:=(hb.cell (zaf h1)).trans h1;have r4:=r4.below hb;have uS:=uS.mono hb;have Hbk:=hii (Below.step HbB.o hb nl);clear hb HPR h0
   by_cases hRn:iR<0
   ·have hY:=hii (HY.o (by rw[HZ.o,decide_eq_true hRn];rfl));clear h1 HY HZ HT;obtain⟨p0,p1,p2,p3⟩:=r4.n4;have q0:=r4.free 0;have q1:=r4.free 1;have q2:=r4.free 2;have q3:=r4.free 3;have R9:=(((r4.set 0 bF_).set 1 nS_).set 2 bF_).set 3 nS_;have R9:=hii R9;have HB9:=hii (Below.step hbw Hbk.o nl);clear Hbk;go_wp2;obtain⟨e0,e1,e2,e3⟩:=Row.n4 R9.o;refine bodyPost_ret (v:=.tuple #[.agg #[bF_,nS_,bF_,nS_],.int .i64 (1)]) (by simp[results,Tryz.results24,go_sem,e0,e1,e2,e3]) rfl ⟨.inl ⟨hY.o,rfl⟩,?_⟩;exact HB9.o.trans ((zfW we g4 _ _ _ _).below (λb e=>by rw[e];exact Hg4.o) HB9.o.size)
   ·go_wp2_with fail;go_fit (HPS.o we uS);rintro e wf⟨rfl,hb⟩;have r4:=r4.below hb;have Hbk:=hii (Below.step Hbk.o hb nl);clear hb HPS h1
    by_cases hSn:iS<0
    ·have hY:=hii (HY.o (by rw[HZ.o,decide_eq_true hSn];simp));clear HY HZ HT;obtain⟨p0,p1,p2,p3⟩:=r4.n4;have q0:=r4.free 0;have q1:=r4.free 1;have q2:=r4.free 2;have q3:=r4.free 3;have R9:=(((r4.set 0 bF_).set 1 nS_).set 2 bF_).set 3 nS_;have R9:=hii R9;have HB9:=hii (Below.step hbw Hbk.o nl);clear Hbk;go_wp2;obtain⟨e0,e1,e2,e3⟩:=Row.n4 R9.o;refine bodyPost_ret (v:=.tuple #[.agg #[bF_,nS_,bF_,nS_],.int .i64 (1)]) (by simp[results,Tryz.results24,go_sem,e0,e1,e2,e3]) rfl ⟨.inl ⟨hY.o,rfl⟩,?_⟩;exact HB9.o.trans ((zfW wf g4 _ _ _ _).below (λb e=>by rw[e];exact Hg4.o) HB9.o.size)
    ·have HT:Hid ((L.take (k+1)).any (zaX R S)=false):=hii (by rw[HT.o,HZ.o,decide_eq_false (show ¬iR<0 by omega),decide_eq_false (show ¬iS<0 by omega)];rfl);clear HY HZ r4;go_wp2;go_roundw
     case rel=>exact⟨k+1,oM,gM,HT,Hbk⟩
     case measure=>exact mM
  ·obtain rfl:k=N:=oM;have hkN:¬(k:Int)<(k:Int):=oM;have HM9:Hid (L.any (zaX R S)=false):=hii (by have h:=HB.o;rw[List.take_of_length_le (by rw[HN.o];exact nl)]at h;exact h);have hbw:=Below.step hbw HbB.o nl;clear HB HbB hlt hk;obtain⟨N,rfl⟩:∃n,n=k:=⟨_,rfl⟩;obtain⟨E,hE1⟩:∃E,zav (L.map (·.2))=E:=⟨_,rfl⟩;have HE1:=hii hE1;rw[hE1]at HPt;clear hE1;go_wp2_with fail;go_fit (HPt.o wr uL hE);rintro e wC⟨rfl,hb⟩;have hf:=hf.mono hb;have uC:=uC.mono hb;have hE:=hE.mono hb;have rf:=rf.below hb;have r4:=r4.below hb;have uL:=uL.mono zag hb;have hbw:=bu hbw hb;clear hb;clear HPt hkN
   by_cases hE0:E=0
   case neg=>
    have hEn:((E:Int) != 0)=true:=by simp;omega
    have hEx:Hid (E≠0):=hii hE0;clear hE0;obtain⟨p0,p1,p2,p3⟩:=r4.n4;have q0:=r4.free 0;have q1:=r4.free 1;have q2:=r4.free 2;have q3:=r4.free 3;have R9:=(((r4.set 0 bF_).set 1 nS_).set 2 bF_).set 3 nS_;have R9:=hii R9;have HB9:=hii hbw;go_wp2;obtain⟨e0,e1,e2,e3⟩:=Row.n4 R9.o;refine bodyPost_ret (v:=.tuple #[.agg #[bF_,nS_,bF_,nS_],.int .i64 ((E:Nat))]) (by simp[results,Tryz.results24,go_sem,e0,e1,e2,e3]) rfl ⟨.inr (.inl ⟨HM9.o,by rw[HE1.o];exact hEx.o,by rw[HE1.o];rfl⟩),?_⟩;exact dU
   subst hE0;obtain⟨sh,hsh,hOf⟩:=Hsz.o HM9.o HE1.o;have Hsh:=hii hsh;have HOf:=hii hOf;have HNs:Hid (sh.length=N):=hii (by rw[<-HN.o,hsh];simp[shQ]);clear hsh hOf Hsz;go_wp2_with fail;go_fit (zbT 0 wC dM dM hE);rintro e wb⟨hz,hb⟩;have hf:=hf.mono hb;have uC:=uC.mono hb;have hE:=hE.mono hb;have rf:=rf.below hb;have r4:=r4.below hb;have uL:=uL.mono zag hb;have hbw:=bu hbw hb;clear hb;obtain⟨J3,ao3,n3,Y3,K3,ap3,m3,Z3,rfl,hV⟩:=hz.rat;have hV:zad wb (qA J3 ao3 n3 Y3 K3 ap3 m3 Z3) (mxS f cap sh 0):=hV;clear hz;go_upto_region 13 with fail;have hb:=bA wb (.cells #[.bool J3,.slice ao3 n3 Y3,.bool K3,.slice ap3 m3 Z3] 32);have r7:Row (wb.alloc (.cells #[.bool J3,.slice ao3 n3 Y3,.bool K3,.slice ap3 m3 Z3] 32)) wb.heap.size 32 [.bool J3,.slice ao3 n3 Y3,.bool K3,.slice ap3 m3 Z3]:=heap_alloc_new _ _;obtain⟨g7,hg⟩:∃g,g=wb.heap.size:=⟨_,rfl⟩;have Hg7:Hid (wb.heap.size<=g7):=hii oM;rw[<-hg]at r7|-;clear hg;have HbX:=hii hb;have hV:=hV.mono hb;generalize wb.alloc (.cells #[.bool J3,.slice ao3 n3 Y3,.bool K3,.slice ap3 m3 Z3] 32)=wD at*;clear hb;go_wp2_with fail;go_loopw [16] (λs wr=>∃i:Nat,∃J3 ao3 n3 Y3 K3 ap3 m3 Z3,i<=m/\s=.int .i64 i/\Row wr g7 32 [.bool J3,.slice ao3 n3 Y3,.bool K3,.slice ap3 m3 Z3]/\zad wr (qA J3 ao3 n3 Y3 K3 ap3 m3 Z3) (mxS f cap sh i)/\Hid (BH wb wr)) (λs _=>m-(intOf s).toNat)
   case atStart=>exact⟨0,_,_,_,_,_,_,_,_,Nat.zero_le _,rfl,r7,hV,HbX⟩
   case round=>
    clear r7 hV HbX;obtain⟨i,J3,ao3,n3,Y3,K3,ap3,m3,Z3,hi,rfl,r7,hV,HbX⟩:=hrel
    by_cases hlt:i<m
    ·obtain⟨c,hcx⟩:∃c,cap[i]?=some c:=⟨cap[i]'(by rw[hc.o];exact hlt),gE _⟩;have hcd:cap.getD i 0=c:=by rw[List.getD_eq_getElem?_getD,hcx];rfl
     obtain⟨hj1,hj2,hj3⟩:=HOf.o i (by rw[hc.o];exact hlt);rw[hcd]at hj2 hj3;have Hj1:=hii hj1;have Hj2:=hii hj2;have Hj3:=hii hj3;have Hcn:Hid (c.num≠0):=hii (λe=>by have h:=hpc.o c (List.mem_of_getElem? hcx);rw[Rat.num_eq_zero.1 e]at h;exact Rat.lt_irrefl h);have Hmx:Hid (mxS f cap sh (i+1)=if mxS f cap sh i<tS f sh i / c then tS f sh i / c else mxS f cap sh i):=hii (by rw[<-hcd];rfl);have hCx:(cap.map (some:Rat->Qo))[i]?=some (some c):=by rw[List.getElem?_map,hcx];rfl
     have HCx:=hii hCx;have him:(i:Int)<(m:Int):=oM;have hEk:=hE.mono HbX.o;clear hcx hcd hj1 hj2 hj3 hCx;go_wp2_with fail;go_fit (zbT 0 wr dM dM hEk);rintro e wi⟨hz,hb⟩;have r7:=r7.below hb;have hV:=hV.mono hb;have HbX:=hii (Below.step HbX.o hb nl);obtain⟨J5,ao5,n5,Y5,K5,ap5,m5,Z5,rfl,hS⟩:=hz.rat;have hS:zad wi (qA J5 ao5 n5 Y5 K5 ap5 m5 Z5) (tS f (sh.take 0) i):=by simpa [tS,zbc]using hS
     clear hz hb hEk;go_upto_region 17 with fail;have hb:=bA wi (.cells #[.bool J5,.slice ao5 n5 Y5,.bool K5,.slice ap5 m5 Z5] 32);have r17:Row (wi.alloc (.cells #[.bool J5,.slice ao5 n5 Y5,.bool K5,.slice ap5 m5 Z5] 32)) wi.heap.size 32 [.bool J5,.slice ao5 n5 Y5,.bool K5,.slice ap5 m5 Z5]:=heap_alloc_new _ _;obtain⟨g17,hg⟩:∃g,g=wi.heap.size:=⟨_,rfl⟩;have Hg17:Hid (wi.heap.size<=g17):=hii oM;rw[<-hg]at r17|-;clear hg;have Hbj:=hii hb;have hS:=hS.mono hb;generalize wi.alloc (.cells #[.bool J5,.slice ao5 n5 Y5,.bool K5,.slice ap5 m5 Z5] 32)=wj at*;clear hb;go_wp2_with fail;go_loopw [18] (λs wr=>∃j:Nat,∃J5 ao5 n5 Y5 K5 ap5 m5 Z5,j<=N/\s=.int .i64 j/\Row wr g17 32 [.bool J5,.slice ao5 n5 Y5,.bool K5,.slice ap5 m5 Z5]/\zad wr (qA J5 ao5 n5 Y5 K5 ap5 m5 Z5) (tS f (sh.take j) i)/\Hid (BH wi wr)) (λs _=>N-(intOf s).toNat)
     case atStart=>exact⟨0,_,_,_,_,_,_,_,_,Nat.zero_le _,rfl,r17,hS,Hbj⟩
     case round=>
      clear hS Hbj r17;obtain⟨j,J5,ao5,n5,Y5,K5,ap5,m5,Z5,hj,rfl,r17,hS,Hbj⟩:=hrel;have HbZ:=hii (Below.step HbX.o Hbj.o nl)
      by_cases hlj:j<N
      ·obtain⟨⟨⟨r,s⟩,x⟩,hx⟩:∃x,sh[j]?=some x:=⟨sh[j]'(by rw[HNs.o];exact hlj),gE _⟩;have hxL:L[j]?=some ((r,s),some x):=by rw[Hsh.o];unfold shQ;rw[List.getElem?_map,hx];rfl
       have hin:((r,s),some x)∈L:=List.mem_of_getElem? hxL;have hmiss:zaX R S ((r,s),some x)=false:=List.any_eq_false.1 HM9.o _ hin |> λh=>by simpa using h
       have hmm:r∈R/\s∈S:=by
        unfold zaX at hmiss;simp only[Bool.or_eq_false_iff,Bool.not_eq_false',List.any_eq_true,decide_eq_true_eq]at hmiss;obtain⟨⟨a,ha,rfl⟩,⟨b,hb,rfl⟩⟩:=hmiss;exact⟨ha,hb⟩
       have hr16:=h16.o.1 r hmm.1;have hs16:=h16.o.2 s hmm.2;obtain⟨HMu,HAd⟩:=Hj1.o j _ hx;have HMu:=hii HMu;have HAd:=hii HAd;have HTS:Hid (tS f (sh.take (j+1)) i=tS f (sh.take j) i+x*wt f (r,s) i):=hii (zi4 hx);obtain⟨b1,off1,J2,ao2,n2,Y2,K2,ap2,m2,Z2,ea,hv,h0,h1,h2,h3,h4,h5⟩:=(uL.mono zag HbZ.o).six hxL;have hv:zad wr (qA J2 ao2 n2 Y2 K2 ap2 m2 Z2) x:=hv;have hjN:(j:Int)<(N:Int):=oM;obtain⟨t,ht⟩:∃t,wt f (r,s) i=t:=⟨_,rfl⟩;have Ht:=hii ht;rw[ht]at HMu HAd HTS;obtain⟨acc,hacc⟩:∃t,tS f (sh.take j) i=t:=⟨_,rfl⟩;rw[hacc]at HAd HTS hS;have hEr:=hE.mono HbZ.o;have hfk:=hf.mono HbZ.o;have rfk:=rf.below HbZ.o;subst ea;clear hx hxL hin hmiss hmm ht hacc;go_upto_region 20 with fail;obtain⟨wc,rfl⟩:=exi wr;refine zan (wx:=wc) (λ_=>False) [(λ_ X _=>X 0=.slice (sD b1 off1) N cL),(λ_ X _=>X 1=.int .i64 j),(λ_ X _=>X 2=.pointer (some ⟨b1,off1+j*6,none⟩)),(λ_ X _=>X 3=.pointer (some ⟨b1,off1+j*6+2,none⟩)),(λ_ X _=>X 4=.agg #[.bool J2,.slice ao2 n2 Y2,.bool K2,.slice ap2 m2 Z2]),(λ_ X _=>X 5=.slice (sD b1 off1) N cL),(λ_ X _=>X 6=.int .i64 j),(λ_ X _=>X 7=.pointer (some ⟨b1,off1+j*6,none⟩)),(λ_ X _=>X 8=.pointer (some ⟨b1,off1+j*6,none⟩)),(λ_ X _=>X 9=.int .u16 (r:Nat)),(λ_ X _=>X 10=.slice (sD b1 off1) N cL),(λ_ X _=>X 11=.int .i64 j),(λ_ X _=>X 12=.pointer (some ⟨b1,off1+j*6,none⟩)),(λ_ X _=>X 13=.pointer (some ⟨b1,off1+j*6+1,none⟩)),(λ_ X _=>X 14=.int .u16 (s:Nat)),(λ_ X _=>X 15=.agg #[.bool J1,.slice ao1 n1 Y1,.bool K1,.slice ap1 m1 Z1]),(λ_ X _=>X 16=.int .i64 i),(λG X W=>((FQ t):FV) G W (X 17)),(λG X W=>((λ_ W v=>∃a,v=.tuple #[a,.int .i64 0]/\zad W a (x*t)):FV) G W (X 18)),(λG X W=>((λ_ W v=>∃a,v=.tuple #[a,.int .i64 0]/\zad W a (x*t)):FV) G W (X 19)),(λG X W=>((FQ (x*t)):FV) G W (X 20)),(λ_ X _=>X 21=.int .i64 0),(λ_ _ _=>True),(λ_ _ _=>True),(λ_ X _=>X 24=.int .i64 0)] [some 79,some 80,some 81,some 82,some 83,some 84,some 85,some 86,some 87,some 88,some 89,some 90,some 91,some 92,some 93,some 94,some 95,some 96,some 97,some 78,some 98,some 99,some 19,none,some 20] [none,none,none,none,none,none,none,none,none,none,none,none,none,none,none,none,none,none,none,none,none,none,some ⟨23,20,32,[bF_,nS_,bF_,nS_]⟩,none,none] [79,80,81,82,83,84,85,86,87,88,89,90,91,92,93,94,95,96,97,78,98,99,19,20] ⟨(by intro u hu k z e;subst e;simp at hu),trivial⟩ (λb h=>h) br ⟨zaa _ _ _,zaa _ _ _,zaa _ _ _,zaa _ _ _,zaa _ _ _,zaa _ _ _,zaa _ _ _,zaa _ _ _,zaa _ _ _,zaa _ _ _,zaa _ _ _,zaa _ _ _,zaa _ _ _,zaa _ _ _,zaa _ _ _,zaa _ _ _,zaa _ _ _,zaQ _,(zaq (F:=λ_ W v=>∃a,v=.tuple #[a,.int .i64 0]/\zad W a (x*t)) λG G' W W' v ⟨a,e,h⟩ hk hn hG=>⟨a,e,h.kept hk hn⟩),(zaq (F:=λ_ W v=>∃a,v=.tuple #[a,.int .i64 0]/\zad W a (x*t)) λG G' W W' v ⟨a,e,h⟩ hk hn hG=>⟨a,e,h.kept hk hn⟩),zaQ _,zaa _ _ _,zaj _,zaj _,zaa _ _ _,trivial⟩ ⟨⟨λ_ _ _=>trivial,λ_ _ _=>trivial⟩,trivial⟩ ⟨tX,tX,tX,tX,?s4,tX,tX,tX,tX,?s9,tX,tX,tX,tX,?s14,?s15,tX,?s17,?s18,?s19,?s20,?s21,?s22,?s23,tX,trivial⟩ ⟨?b22,trivial⟩ ?he
       case' s4|s9|s14|s15|s17|s18|s19|s20|s21=>
        rintro-G T W hb hHG hGW hGo hNG hA K hK;simp only[yA,yB,Region.binds]at hA;simp only[sA,hA]at hK|-
       case' s4|s9|s14|s15|s17=>
        have HK:=hii hK;clear hK hA
       case' s4=>
        have k2:=(hb.cell (zaf h2)).trans h2;have k3:=(hb.cell (zaf h3)).trans h3;have k4:=(hb.cell (zaf h4)).trans h4;have k5:=(hb.cell (zaf h5)).trans h5
       case' s9=>
        have k0:=(hb.cell (zaf h0)).trans h0
       case' s14=>
        have k1:=(hb.cell (zaf h1)).trans h1
       case' s15=>
        obtain⟨e0,e1,e2,e3⟩:=(rfk.below hb).n4
       case s4|s9|s14|s15=>
        exact cK
       case s17=>
        refine wO rfl ?_;go_simp;go_fit (zfO r s i f W hr16 hs16 oM (hfk.mono hb) HSB (hEr.mono hb));rw[Ht.o];rintro e w1⟨hz,hb1⟩;obtain⟨J7,ao7,n7,Y7,K7,ap7,m7,Z7,rfl,hV7⟩:=hz.rat
        try dsimp only
        exact HK.o _ _ (hb1) λX hX _=>by
         show((FQ t):FV) G _ (X 17)
         rw[hX];exact hV7
       case s18=>
        have r17:((FQ t):FV) G W (T 96):=hA.2.1;have r17:zad W _ t:=r17;obtain⟨J8,ao8,n8,Y8,K8,ap8,m8,Z8,e17⟩:=r17.parts;rw[e17]at r17;simp only[e17]at hK|-;have HK:=hii hK;clear hK hA;refine wO rfl ?_;go_simp;go_fit (znX _ _ x t W (hv.mono hb) r17 HMu (hEr.mono hb));rintro e w1⟨hz,hb1⟩;obtain⟨J7,ao7,n7,Y7,K7,ap7,m7,Z7,rfl,hV7⟩:=hz.rat
        try dsimp only
        exact HK.o _ _ (hb1) λX hX _=>by
         show((λ_ W v=>∃a,v=.tuple #[a,.int .i64 0]/\zad W a (x*t)):FV) G _ (X 18)
         exact dQ
       case s19=>
        have r18:((λ_ W v=>∃a,v=.tuple #[a,.int .i64 0]/\zad W a (x*t)):FV) G W (T 97):=hA.1;obtain⟨a6,e18,h6⟩:=r18;simp only[e18]at hK|-;have HK:=hii hK;clear hK hA;refine wO rfl ?_;go_simp;exact HK.o _ _ br λX hX _=>by
         show((λ_ W v=>∃a,v=.tuple #[a,.int .i64 0]/\zad W a (x*t)):FV) G _ (X 19)
         exact dL
       case s20=>
        have r19:((λ_ W v=>∃a,v=.tuple #[a,.int .i64 0]/\zad W a (x*t)):FV) G W (T 78):=hA.1;obtain⟨a6,e19,h6⟩:=r19;simp only[e19]at hK|-;have HK:=hii hK;clear hK hA;refine wO rfl ?_;go_simp;exact HK.o _ _ br λX hX _=>by
         show((FQ (x*t)):FV) G _ (X 20)
         exact eM
       case s21=>
        have r19:((λ_ W v=>∃a,v=.tuple #[a,.int .i64 0]/\zad W a (x*t)):FV) G W (T 78):=hA.1;obtain⟨a6,e19,h6⟩:=r19;simp only[e19]at hK|-;exact dB
       case s22=>exact λh=>absurd h dM
       case s23=>exact λh=>absurd h dM
       case b22=>
        refine⟨?_,?_⟩
        ·exact cG
        ·rintro o ho G T W nb hA hp hrow K hK;obtain rfl:=Option.some.inj ho;have ep:T 19=.pointer (sD nb 0):=hp;have r20:((FQ (x*t)):FV) G W (T 98):=hA.2.1;have r20:zad W _ (x*t):=r20;obtain⟨J8,ao8,n8,Y8,K8,ap8,m8,Z8,e20⟩:=r20.parts;have hK:=hK [.bool J8,.slice ao8 n8 Y8,.bool K8,.slice ap8 m8 Z8] (.inl e20) rfl (by intro u hu k z e;subst e;simp at hu);simp only[sA,ep,e20]at hK|-;exact cJ
       case he=>
        rintro GG N T W hb hHG hGW hGo hbox hNG hne hA;have fv:((FQ (x*t)):FV) GG W (T 98):=hA.at 20 dM;have f24:T 20=.int .i64 0:=hA.at 24 dM;obtain⟨ep,_,hge,vs,hsto,hrow⟩:=hbox 22 _ rfl;have ep:T 19=.pointer (some ⟨N 22,0,none⟩):=ep;have fv:zad W _ (x*t):=fv;obtain⟨J6,ao6,n6,Y6,K6,ap6,m6,Z6,e5⟩:=fv.parts;obtain rfl:=hsto.four e5;rw[e5]at fv;simp only[sA,ep,f24];obtain⟨g19,hg⟩:∃g,g=N 22:=⟨_,rfl⟩;rw[<-hg]at hrow hge|-;have Hg19:=hii hge;clear hA hbox hNG hne hHG hGW hGo ep f24 hsto hge e5 hg;have r19:Row W g19 32 [.bool J6,.slice ao6 n6 Y6,.bool K6,.slice ap6 m6 Z6]:=hrow;have Hbj:=hii (Below.step Hbj.o hb nl);have r17:=r17.below hb;have hS:=hS.mono hb;have hEr:=hEr.mono hb;clear hb hrow hv h0 h1 h2 h3 h4 h5 hfk rfk;obtain⟨wd,rfl⟩:=exi W;obtain⟨e0,e1,e2,e3⟩:=r19.n4;obtain⟨k0,k1,k2,k3⟩:=r17.n4;go_wp2_with fail;go_fit (zlS _ _ acc (x*t) wd hS fv HAd hEr);rintro e we⟨hz,hb⟩;rw[<-HTS.o]at hz;obtain⟨J7,ao7,n7,Y7,K7,ap7,m7,Z7,rfl,hV7⟩:=hz.rat;have Hbj:=hii (Below.step Hbj.o hb nl);have r17:=r17.below hb;clear hb e0 e1 e2 e3 k0 k1 k2 k3 hz r19 fv hS hEr;have q0:=r17.free 0;have q1:=r17.free 1;have q2:=r17.free 2;have q3:=r17.free 3;obtain⟨k0,k1,k2,k3⟩:=r17.n4;have HP4:=hii (zfy r17 noI4' (.bool J7) (.slice ao7 n7 Y7) (.bool K7) (.slice ap7 m7 Z7) hV7);have Hbj3:=hii (Hbj.o.trans (HP4.o.2.1.below (λb e=>by rw[e];exact Hg17.o) Hbj.o.size));clear r17 hV7 Hbj;go_wp2;go_roundw
        case rel=>exact⟨j+1,_,_,_,_,_,_,_,_,oM,gM,HP4.o.1,HP4.o.2.2,Hbj3⟩
        case measure=>exact mM
      ·have hjN:j=N:=oM;rw[hjN,List.take_of_length_le (by rw[HNs.o];exact nl)]at hS;have hjn:¬(j:Int)<(N:Int):=oM;obtain⟨acc,hacc⟩:∃t,tS f sh i=t:=⟨_,rfl⟩;rw[hacc]at hS Hj2 Hj3 Hmx;have hEr:=hE.mono HbZ.o;have r7:=r7.below Hbj.o;have hV:=hV.mono Hbj.o;obtain⟨bC,offC,J4,ao4,n4,Y4,K4,ap4,m4,Z4,eC,z4,hvc⟩:=(uC.mono HbZ.o) i (some c) HCx.o;have hvc:zad wr (qA J4 ao4 n4 Y4 K4 ap4 m4 Z4) c:=hvc;subst eC;obtain⟨x0,x1,x2,x3,_,_,_,_⟩:=z4;clear hacc hjN hlj Hbj;go_upto_region 26 with fail;obtain⟨wc,rfl⟩:=exi wr;refine zan (wx:=wc) (λ_=>False) [(λ_ X _=>X 0=.agg #[.bool J5,.slice ao5 n5 Y5,.bool K5,.slice ap5 m5 Z5]),(λ_ X _=>X 1=.slice (sD bC offC) m cC),(λ_ X _=>X 2=.int .i64 i),(λ_ X _=>X 3=.pointer (some ⟨bC,offC+i*4,none⟩)),(λ_ X _=>X 4=.agg #[.bool J4,.slice ao4 n4 Y4,.bool K4,.slice ap4 m4 Z4]),(λG X W=>((λ_ W v=>∃a,v=.tuple #[a,.int .i64 0]/\zad W a (acc / c)):FV) G W (X 5)),(λG X W=>((λ_ W v=>∃a,v=.tuple #[a,.int .i64 0]/\zad W a (acc / c)):FV) G W (X 6)),(λG X W=>((FQ (acc / c)):FV) G W (X 7)),(λ_ X _=>X 8=.int .i64 0),(λ_ _ _=>True),(λ_ _ _=>True),(λ_ X _=>X 11=.int .i64 0)] [some 115,some 116,some 117,some 118,some 119,some 120,some 114,some 121,some 122,some 21,none,some 22] [none,none,none,none,none,none,none,none,none,some ⟨10,7,32,[bF_,nS_,bF_,nS_]⟩,none,none] [115,116,117,118,119,120,114,121,122,21,22] ⟨(by intro u hu k z e;subst e;simp at hu),trivial⟩ (λb h=>h) br ⟨zaa _ _ _,zaa _ _ _,zaa _ _ _,zaa _ _ _,zaa _ _ _,(zaq (F:=λ_ W v=>∃a,v=.tuple #[a,.int .i64 0]/\zad W a (acc / c)) λG G' W W' v ⟨a,e,h⟩ hk hn hG=>⟨a,e,h.kept hk hn⟩),(zaq (F:=λ_ W v=>∃a,v=.tuple #[a,.int .i64 0]/\zad W a (acc / c)) λG G' W W' v ⟨a,e,h⟩ hk hn hG=>⟨a,e,h.kept hk hn⟩),zaQ _,zaa _ _ _,zaj _,zaj _,zaa _ _ _,trivial⟩ ⟨⟨λ_ _ _=>trivial,λ_ _ _=>trivial⟩,trivial⟩ ⟨?s0,tX,tX,tX,?s4,?s5,?s6,?s7,?s8,?s9,?s10,tX,trivial⟩ ⟨?b9,trivial⟩ ?he
       case' s0|s4|s5|s6|s7|s8=>
        rintro-G T W hb hHG hGW hGo hNG hA K hK;simp only[yA,yB,Region.binds]at hA;simp only[sA,hA]at hK|-
       case' s0|s4|s5=>
        have HK:=hii hK;clear hK hA
       case' s0=>
        obtain⟨e0,e1,e2,e3⟩:=(r17.below hb).n4
       case' s4=>
        have k0:=(hb.cell (zaf x0)).trans x0;have k1:=(hb.cell (zaf x1)).trans x1;have k2:=(hb.cell (zaf x2)).trans x2;have k3:=(hb.cell (zaf x3)).trans x3
       case s0|s4=>
        exact cK
       case s5=>
        refine wO rfl ?_;go_simp;go_fit (znZ _ _ acc c 0 W (hS.mono hb) (hvc.mono hb) Hcn (hii (KQ.ok Hj2.o)) (hEr.mono hb));rintro e w1⟨hz,hb1⟩;obtain⟨J7,ao7,n7,Y7,K7,ap7,m7,Z7,rfl,hV7⟩:=hz.got.rat
        try dsimp only
        exact HK.o _ _ (hb1) λX hX _=>by
         show((λ_ W v=>∃a,v=.tuple #[a,.int .i64 0]/\zad W a (acc / c)):FV) G _ (X 5)
         exact dQ
       case s6=>
        have r5:((λ_ W v=>∃a,v=.tuple #[a,.int .i64 0]/\zad W a (acc / c)):FV) G W (T 120):=hA.1;obtain⟨a6,e5,h6⟩:=r5;simp only[e5]at hK|-;have HK:=hii hK;clear hK hA;refine wO rfl ?_;go_simp;exact HK.o _ _ br λX hX _=>by
         show((λ_ W v=>∃a,v=.tuple #[a,.int .i64 0]/\zad W a (acc / c)):FV) G _ (X 6)
         exact dL
       case s7=>
        have r6:((λ_ W v=>∃a,v=.tuple #[a,.int .i64 0]/\zad W a (acc / c)):FV) G W (T 114):=hA.1;obtain⟨a6,e6,h6⟩:=r6;simp only[e6]at hK|-;have HK:=hii hK;clear hK hA;refine wO rfl ?_;go_simp;exact HK.o _ _ br λX hX _=>by
         show((FQ (acc / c)):FV) G _ (X 7)
         exact eM
       case s8=>
        have r6:((λ_ W v=>∃a,v=.tuple #[a,.int .i64 0]/\zad W a (acc / c)):FV) G W (T 114):=hA.1;obtain⟨a6,e6,h6⟩:=r6;simp only[e6]at hK|-;exact dB
       case s9=>exact λh=>absurd h dM
       case s10=>exact λh=>absurd h dM
       case b9=>
        refine⟨?_,?_⟩
        ·exact cG
        ·rintro o ho G T W nb hA hp hrow K hK;obtain rfl:=Option.some.inj ho;have ep:T 21=.pointer (sD nb 0):=hp;have r7:((FQ (acc / c)):FV) G W (T 121):=hA.2.1;have r7:zad W _ (acc / c):=r7;exact d9
       case he=>
        rintro GG N T W hb hHG hGW hGo hbox hNG hne hA;have fv:((FQ (acc / c)):FV) GG W (T 121):=hA.at 7 dM;have f11:T 22=.int .i64 0:=hA.at 11 dM;obtain⟨ep,_,hge,vs,hsto,hrow⟩:=hbox 9 _ rfl;have ep:T 21=.pointer (some ⟨N 9,0,none⟩):=ep;have fv:zad W _ (acc / c):=fv;obtain⟨J6,ao6,n6,Y6,K6,ap6,m6,Z6,e5⟩:=fv.parts;obtain rfl:=hsto.four e5;rw[e5]at fv;simp only[sA,ep,f11];obtain⟨g21,hg⟩:∃g,g=N 9:=⟨_,rfl⟩;rw[<-hg]at hrow hge|-;have Hg21:=hii hge;clear hA hbox hNG hne hHG hGW hGo ep f11 hsto hge e5 hg;have r21:Row W g21 32 [.bool J6,.slice ao6 n6 Y6,.bool K6,.slice ap6 m6 Z6]:=hrow;have HbZ:=hii (Below.step HbZ.o hb nl);have r7:=r7.below hb;have hV:=hV.mono hb;have hEr:=hEr.mono hb;clear hb hrow hS r17 hvc x0 x1 x2 x3;obtain⟨wd,rfl⟩:=exi W;obtain⟨mx,hmx⟩:∃x,mxS f cap sh i=x:=⟨_,rfl⟩;rw[hmx]at hV Hj3 Hmx;clear hmx;obtain⟨cc,hcc⟩:∃x,Rq.cmpQ (acc / c) mx=x:=⟨_,rfl⟩;have Hcc:=hii hcc;clear hcc;obtain⟨e0,e1,e2,e3⟩:=r21.n4;obtain⟨k0,k1,k2,k3⟩:=r7.n4;go_wp2_with fail;go_fit (zlR _ _ (acc / c) mx wd fv hV Hj3 hEr);rw[Hcc.o];rintro e we⟨rfl,hb⟩;have r21:=r21.below hb;have r7:=r7.below hb;have hV:=hV.mono hb;have fv:=fv.mono hb;have HbZ:=hii (Below.step HbZ.o hb nl);clear hb e0 e1 e2 e3 k0 k1 k2 k3 hEr;have hgt:=zfn (acc / c) mx;rw[Hcc.o]at hgt
        by_cases hgx:mx<acc / c
        ·have hd:decide (0<cc)=true:=by rw[hgt];exact decide_eq_true hgx
         rw[if_pos hgx]at Hmx;have hd0:(0:Int)<cc:=of_decide_eq_true hd;obtain⟨e0,e1,e2,e3⟩:=r21.n4;obtain⟨k0,k1,k2,k3⟩:=r7.n4;have q0:=r7.free 0;have q1:=r7.free 1;have q2:=r7.free 2;have q3:=r7.free 3;have HP4:=hii (zfy r7 noI4' (.bool J6) (.slice ao6 n6 Y6) (.bool K6) (.slice ap6 m6 Z6) fv);have HbX3:=hii (HbZ.o.trans (HP4.o.2.1.below (λb e=>by rw[e];exact Hg7.o) HbZ.o.size));clear r7 hV fv hgt hd;go_wp2;go_roundw
         case rel=>exact⟨i+1,_,_,_,_,_,_,_,_,oM,gM,HP4.o.1,by rw[Hmx.o];exact HP4.o.2.2,HbX3⟩
         case measure=>exact mM
        ·have hd:decide (0<cc)=false:=by rw[hgt];exact decide_eq_false hgx
         rw[if_neg hgx]at Hmx;have hd0:¬(0:Int)<cc:=of_decide_eq_false hd;clear hgt hd;go_wp2;go_roundw
         case rel=>exact⟨i+1,_,_,_,_,_,_,_,_,oM,gM,r7,by rw[Hmx.o];exact hV,HbZ⟩
         case measure=>exact mM
    ·have him:i=m:=oM;rw[him]at hV;have hin:¬(i:Int)<(m:Int):=oM;have r4:=r4.below HbX.o;obtain⟨p0,p1,p2,p3⟩:=r4.n4;obtain⟨k0,k1,k2,k3⟩:=r7.n4;have q0:=r4.free 0;have q1:=r4.free 1;have q2:=r4.free 2;have q3:=r4.free 3;have HP4:=hii (zfy r4 zhK (.bool J3) (.slice ao3 n3 Y3) (.bool K3) (.slice ap3 m3 Z3) hV);have Hbw:=hii (hbw.trans (HbX.o.mono hbw.size));clear r7 r4 hV hbw him hlt hi;go_wp2;obtain⟨R1,R2,R3⟩:=HP4.o;obtain⟨e0,e1,e2,e3⟩:=Row.n4 R1;refine bodyPost_ret (v:=.tuple #[.agg #[.bool J3,.slice ao3 n3 Y3,.bool K3,.slice ap3 m3 Z3],.int .i64 0]) (by simp[results,Tryz.results24,go_sem,e0,e1,e2,e3]) rfl ⟨.inr (.inr ⟨HM9.o,HE1.o,sh,Hsh.o,by rw[hc.o];exact zb3.mk R3⟩),?_⟩;exact eF
end Go.Proofs.YtfgffkmddanjjaaGreatDoor
