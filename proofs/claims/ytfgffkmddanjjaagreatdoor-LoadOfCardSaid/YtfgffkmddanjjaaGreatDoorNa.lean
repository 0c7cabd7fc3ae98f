/-
  The reference: positions, signs, weights, parts.
-/
import Derived.Test.YtfgffkmddanjjaaGreatDoorMe
import Derived.Test.YtfgffkmddanjjaaGreatDoorLu
set_option linter.unusedVariables false
set_option linter.unusedSimpArgs false
set_option maxRecDepth 100000
set_option maxHeartbeats 25600000
namespace Go.Proofs.YtfgffkmddanjjaaGreatDoor
open _root_.Go.Proofs.Tryz
open Go.RowKit
variable {J1:Bool} {Y1 Z1 m1 n1:Nat} {ao1 ap1:OA}
theorem zju{v1 v2:Vl}{a b:Rat}{z:Bool}{w:Wo}(hz:Hid (decide (a=b)=z))(h1:zad w v1 a)(h2:zad w v2 b)(hE:Env w):CP 13 #[v1,v2] w λe w'=>e=.returned (.bool z)/\BH w w':=by
 obtain⟨_,_,_,_,_,_,_,_,rfl,a1,a2⟩:=h1;obtain⟨_,_,_,_,_,_,_,_,rfl,b1,b2⟩:=h2
 by_cases hab:a=b
 ·obtain rfl:z=true:=by rw[<-hz.o];exact decide_eq_true hab
  subst hab;exact zfl _ _ _ _ w (hii ⟨rfl,rfl⟩) a1 a2 b1 b2 hE
 ·obtain rfl:z=false:=by rw[<-hz.o];exact decide_eq_false hab
  by_cases hn:a.num=b.num
  ·have hd:(a.den:Int)≠(b.den:Int):=λe=>hab (Rat.ext hn (by exact_mod_cast e))
   exact zmT _ _ _ _ w (hii ⟨hn,hd⟩) a1 a2 b1 b2 hE
  ·exact zmS _ _ _ _ w (hii hn) a1 a2 b1 b2 hE
theorem zgE(r:Rat):decide (zaB r.num<0)=decide (r<0):=by
 rw[Bool.eq_iff_iff,decide_eq_true_iff,decide_eq_true_iff,<-Rat.not_le,<-Rat.num_nonneg];unfold zaB
 split
 ·omega
 ·split<;>omega
theorem zfY{l:List Qo}{t:Rat}(h:l.any ziM=false)(hs:sumO (l.map zeb)=some t):zav l=if t=1 then 0 else 1:=by
 unfold zav;rw[h,hs]
 rfl
theorem zgB{l:List Rat}(h:∀k x,l[k]?=some x->zcI (zbc (l.take k)) x):∀n,n<=l.length->sumO (l.take n)=some (zbc (l.take n))
 |0,_=>by simp;rfl
 |n+1,hn=>by
  obtain⟨x,hx⟩:∃x,l[n]?=some x:=⟨l[n],gE oM⟩;rw[zaw hx,zcO,zgB h n oM,zdE (h n x hx),zbf]
theorem zdj(l:LN)(x:Nat)(aa:OA)(ca:Nat)(w:Wo)(hl:l.length<=1000000)(ua:zaF w aa l) :
  CP 59 #[.slice aa l.length ca,.int .u16 (x:Nat)] w λe w'=>e=.returned (.int .i64 (zeC (λy=>decide (y=x)) l))/\BH w w':=by
 have hbw:=Below.refl w.heap.size w;go_enter func59,ntmps59;go_wp2_with fail;go_loopw [5] (λs wr=>∃k:Nat,k<=l.length/\s=.int .i64 k/\Hid (∀y∈l.take k,decide (y=x)=false)/\Hid (wr=w)) (λs _=>l.length-(intOf s).toNat)
 case atStart=>exact⟨0,Nat.zero_le _,rfl,hii sM,hii (by first|rfl|trivial)⟩
 case round=>
  obtain⟨k,hk,rfl,HN,HW⟩:=hrel;obtain rfl:=HW.o
  by_cases hlt:k<l.length
  ·obtain⟨y,hx⟩:∃x,l[k]?=some x:=⟨l[k],gE hlt⟩;obtain⟨b1,off1,ea,hc⟩:=ua k y hx;have Hx:=hii hx;have hkl:(k:Int)<(l.length:Int):=oM;clear hx ua;subst ea
   by_cases hq:y=x
   ·subst hq;go_wp2;go_ret;exact⟨by rw[zcp Hx.o (decide_eq_true rfl) HN.o];rfl,hbw⟩
   ·have hq2:((y:Int)==(x:Int))=false:=by simp;omega
    have Hq:=hii hq;clear hq;go_wp2;go_roundw
    case rel=>
     refine⟨k+1,oM,gM,hii λz hz=>?_,hii (by first|rfl|trivial)⟩;rw[zaw Hx.o]at hz;rcases List.mem_append.1 hz with h|h
     ·exact HN.o z h
     ·simp at h;subst h;exact decide_eq_false Hq.o
    case measure=>exact mM
  ·exact dC
theorem zcm(v:Vl)(r:Rat)(s:Int)(w:Wo)(hs:Hid (zaB r.num=s))(h:zad w v r) :
  CP 109 #[v] w λe w'=>e=.returned (.int .i64 s)/\BH w w':=by
 have hbw:=Below.refl w.heap.size w;obtain⟨J1,ao1,n1,Y1,K1,ap1,m1,Z1,rfl,h1,-⟩:=h;go_enter func109,ntmps109;go_upto_region 1 with fail;obtain⟨w1,g1,hw9,hg9,hb,r1⟩:=bxr w [.bool J1,.slice ao1 n1 Y1,.bool K1,.slice ap1 m1 Z1] 32;rw[<-hw9,<-hg9];have Hg1:Hid (w.heap.size<=g1):=hii (by have:=hbw.size;omega);clear hw9 hg9;have h1:=h1.mono hb;have hbw:=bu hbw hb;clear hb;obtain⟨e0,e1,e2,e3⟩:=r1.n4;go_wp2_with fail;go_fit (zaW _ r.num s w1 hs h1);rintro e w2⟨rfl,hb⟩;have hbw:=bu hbw hb;clear hb e0 e1 e2 e3;exact cP
theorem zfO(r s i:Nat)(f:Rat){K1:Bool}(w:Wo)(hr:r<65536)(hs:s<65536)(hi:i<16)(hf:zad w (qA J1 ao1 n1 Y1 K1 ap1 m1 Z1) f)(HF:Hid (zku 1 f))(hE:Env w) :
  CP 61 #[.int .u16 (r:Nat),.int .u16 (s:Nat),.agg #[.bool J1,.slice ao1 n1 Y1,.bool K1,.slice ap1 m1 Z1],.int .i64 (i:Nat)] w λe w'=>zd7 w' (wt f (r,s) i) e/\BH w w':=by
 have hbw:=Below.refl w.heap.size w;obtain⟨t,ht⟩:∃t,wt f (r,s) i=t:=⟨_,rfl⟩;rw[ht];have HT:=hii ht;clear ht;obtain⟨x,hxx⟩:∃x,r.testBit i=x:=⟨_,rfl⟩;obtain⟨y,hyy⟩:∃x,s.testBit i=x:=⟨_,rfl⟩;have HT:Hid (t=if x=true then(if y=true then 1 else f)else if y=true then 1-f else 0):=hii (by rw[<-HT.o,<-hxx,<-hyy];rfl);have HX:=hii (λw=>zjr r i w hr hi);have HY:=hii (λw=>zjr s i w hs hi);rw[hxx]at HX;rw[hyy]at HY;clear hxx hyy;go_enter func61,ntmps61;go_upto_region 1 with fail;obtain⟨wx,hwx,rF,rR,hb⟩:=zaH w 32 32 [.bool J1,.slice ao1 n1 Y1,.bool K1,.slice ap1 m1 Z1] [bF_,nS_,bF_,nS_];simp only[List.toArray]at hwx;rw[<-hwx];clear hwx;obtain⟨w1,rfl⟩:=exi wx;obtain⟨gR,hgR⟩:=exi (w.heap.size+1);have HgR:Hid (w.heap.size<=gR):=hii oM;rw[<-hgR]at rR|-;clear hgR;obtain⟨gF,hgF⟩:=exi (w.heap.size);have HgF:Hid (w.heap.size<=gF):=hii oM;rw[<-hgF]at rF|-;clear hgF;have hf:=hf.mono hb;have hE:=hE.mono hb;have hbw:=bu hbw hb;clear hb;go_wp2_with fail;go_fit (HX.o w1);rintro e w2⟨rfl,hb⟩;have hf:=hf.mono hb;have hE:=hE.mono hb;have rF:=rF.below hb;have rR:=rR.below hb;have hbw:=bu hbw hb;clear hb;go_wp2_with fail;go_fit (HY.o w2);rintro e w3⟨rfl,hb⟩;have hf:=hf.mono hb;have hE:=hE.mono hb;have rF:=rF.below hb;have rR:=rR.below hb;have hbw:=bu hbw hb;clear hb;clear HX HY
 cases x
 ·cases y
  ·have HT2:Hid (t=((0:Int):Rat)):=hii (by rw[HT.o];rfl);clear HT;go_wp2_with fail;go_fit (zbT 0 w3 dM dM hE);rintro e w4⟨hz,hb⟩;have rR:=rR.below hb;have hbw:=bu hbw hb;clear hb;obtain⟨J5,ao5,n5,Y5,K5,ap5,m5,Z5,rfl,hV⟩:=hz.rat;have hV:zad w4 (qA J5 ao5 n5 Y5 K5 ap5 m5 Z5) t:=by rw[HT2.o];exact hV
   clear hz;obtain⟨c0,c1,c2,c3⟩:=rR.n4;have fz:=rR.free;go_wp2;obtain⟨q,hk,hV⟩:=zfy rR zhK (.bool J5) (.slice ao5 n5 Y5) (.bool K5) (.slice ap5 m5 Z5) hV;obtain⟨e0,e1,e2,e3⟩:=q.n4;refine bodyPost_ret (v:=.agg #[.bool J5,.slice ao5 n5 Y5,.bool K5,.slice ap5 m5 Z5]) (by simp[results,Tryz.results61,go_sem,e0,e1,e2,e3]) rfl ⟨zd7.mk hV,?_⟩;exact cT
  ·have HT2:Hid (t=1-f):=hii (by rw[HT.o];rfl);clear HT;go_upto_region 7 with fail;obtain⟨wc,rfl⟩:=exi w3;refine zan (wx:=wc) (λ_=>False) [(λG X W=>((FQ 1):FV) G W (X 0)),(λ_ X _=>X 1=.agg #[.bool J1,.slice ao1 n1 Y1,.bool K1,.slice ap1 m1 Z1]),(λG X W=>((λ_ W v=>∃a,v=.tuple #[a,.int .i64 0]/\zad W a (t)):FV) G W (X 2)),(λG X W=>((λ_ W v=>∃a,v=.tuple #[a,.int .i64 0]/\zad W a (t)):FV) G W (X 3)),(λG X W=>((FQ (t)):FV) G W (X 4)),(λ_ X _=>X 5=.int .i64 0),(λ_ _ _=>True),(λ_ _ _=>True),(λ_ X _=>X 8=.int .i64 0)] [some 28,some 29,some 30,some 27,some 31,some 32,some 11,none,some 12] [none,none,none,none,none,none,some ⟨7,4,32,[bF_,nS_,bF_,nS_]⟩,none,none] [28,29,30,27,31,32,11,12] ⟨(by intro u hu k z e;subst e;simp at hu),trivial⟩ (λb h=>h) br ⟨zaQ _,zaa _ _ _,(zaq (F:=λ_ W v=>∃a,v=.tuple #[a,.int .i64 0]/\zad W a (t)) λG G' W W' v ⟨a,e,h⟩ hk hn hG=>⟨a,e,h.kept hk hn⟩),(zaq (F:=λ_ W v=>∃a,v=.tuple #[a,.int .i64 0]/\zad W a (t)) λG G' W W' v ⟨a,e,h⟩ hk hn hG=>⟨a,e,h.kept hk hn⟩),zaQ _,zaa _ _ _,zaj _,zaj _,zaa _ _ _,trivial⟩ ⟨⟨λ_ _ _=>trivial,λ_ _ _=>trivial⟩,trivial⟩ ⟨?s0,?s1,?s2,?s3,?s4,?s5,?s6,?s7,tX,trivial⟩ ⟨?b6,trivial⟩ ?he
   case' s0|s1|s2|s3|s4|s5=>
    rintro-G T W hb hHG hGW hGo hNG hA K hK;simp only[yA,yB,Region.binds]at hA;simp only[sA,hA]at hK|-
   case' s0|s1=>
    have HK:=hii hK;clear hK hA
   case s0=>
    refine wO rfl ?_;go_simp;go_fit (zbT 1 W dM dM (hE.mono hb));rintro e w1⟨hz,hb1⟩;obtain⟨J7,ao7,n7,Y7,K7,ap7,m7,Z7,rfl,hV7⟩:=hz.rat;have hV7:zad w1 (qA J7 ao7 n7 Y7 K7 ap7 m7 Z7) 1:=hV7
    try dsimp only
    exact HK.o _ _ (hb1) λX hX _=>by
     show((FQ 1):FV) G _ (X 0)
     rw[hX];exact hV7
   case s1=>
    obtain⟨k0,k1,k2,k3⟩:=(rF.below hb).n4;exact cK
   case s2=>
    have r0:((FQ 1):FV) G W (T 28):=hA.1;have r0:zad W _ 1:=r0;obtain⟨J7,ao7,n7,Y7,K7,ap7,m7,Z7,e0⟩:=r0.parts;rw[e0]at r0;simp only[e0]at hK|-;have HK:=hii hK;clear hK hA;refine wO rfl ?_;go_simp;go_fit (zlQ _ _ 1 f W r0 (hf.mono hb) HF (hE.mono hb));rw[<-HT2.o];rintro e w1⟨hz,hb1⟩;obtain⟨J6,ao6,n6,Y6,K6,ap6,m6,Z6,rfl,hV6⟩:=hz.rat
    try dsimp only
    exact HK.o _ _ (hb1) λX hX _=>by
     show((λ_ W v=>∃a,v=.tuple #[a,.int .i64 0]/\zad W a (t)):FV) G _ (X 2)
     rw[hX];exact⟨_,rfl,hV6⟩
   case s3=>
    have r2:((λ_ W v=>∃a,v=.tuple #[a,.int .i64 0]/\zad W a (t)):FV) G W (T 30):=hA.1;obtain⟨a6,e2,h6⟩:=r2;simp only[e2]at hK|-;have HK:=hii hK;clear hK hA;refine wO rfl ?_;go_simp;exact HK.o _ _ br λX hX _=>by
     show((λ_ W v=>∃a,v=.tuple #[a,.int .i64 0]/\zad W a (t)):FV) G _ (X 3)
     exact dL
   case s4=>
    have r3:((λ_ W v=>∃a,v=.tuple #[a,.int .i64 0]/\zad W a (t)):FV) G W (T 27):=hA.1;obtain⟨a6,e3,h6⟩:=r3;simp only[e3]at hK|-;have HK:=hii hK;clear hK hA;refine wO rfl ?_;go_simp;exact HK.o _ _ br λX hX _=>by
     show((FQ (t)):FV) G _ (X 4)
     exact eM
   case s5=>
    have r3:((λ_ W v=>∃a,v=.tuple #[a,.int .i64 0]/\zad W a (t)):FV) G W (T 27):=hA.1;obtain⟨a6,e3,h6⟩:=r3;simp only[e3]at hK|-;exact dB
   case s6=>exact λh=>absurd h dM
   case s7=>exact λh=>absurd h dM
   case b6=>
    refine⟨?_,?_⟩
    ·exact cG
    ·rintro o ho G T W nb hA hp hrow K hK;obtain rfl:=Option.some.inj ho;have ep:T 11=.pointer (sD nb 0):=hp;have r4:((FQ (t)):FV) G W (T 31):=hA.2.1;have r4:zad W _ (t):=r4;exact dA
   case he=>
    rintro GG N T W hb hHG hGW hGo hbox hNG hne hA;have fv:((FQ (t)):FV) GG W (T 31):=hA.at 4 dM;have f8:T 12=.int .i64 0:=hA.at 8 dM;obtain⟨ep,_,hge,vs,hsto,hrow⟩:=hbox 6 _ rfl;have ep:T 11=.pointer (some ⟨N 6,0,none⟩):=ep;have fv:zad W _ (t):=fv;obtain⟨J6,ao6,n6,Y6,K6,ap6,m6,Z6,e5⟩:=fv.parts;obtain rfl:=hsto.four e5;rw[e5]at fv;simp only[sA,ep,f8];obtain⟨g7,hg⟩:∃g,g=N 6:=⟨_,rfl⟩;rw[<-hg]at hrow hge|-;have Hg7:=hii hge;clear hA hbox hNG hne hHG hGW hGo ep f8 hsto hge e5 hg;have rR:=rR.below hb;have hbw:=bu hbw hb;clear hb;obtain⟨wd,rfl⟩:=exi W;have r7:Row wd g7 32 [.bool J6,.slice ao6 n6 Y6,.bool K6,.slice ap6 m6 Z6]:=hrow;have hV:=fv;clear hrow rF hf fv;obtain⟨d0,d1,d2,d3⟩:=r7.n4;obtain⟨c0,c1,c2,c3⟩:=rR.n4;have fz:=rR.free;go_wp2;obtain⟨q,hk,hV⟩:=zfy rR zhK (.bool J6) (.slice ao6 n6 Y6) (.bool K6) (.slice ap6 m6 Z6) hV;obtain⟨e0,e1,e2,e3⟩:=q.n4;refine bodyPost_ret (v:=.agg #[.bool J6,.slice ao6 n6 Y6,.bool K6,.slice ap6 m6 Z6]) (by simp[results,Tryz.results61,go_sem,e0,e1,e2,e3]) rfl ⟨zd7.mk hV,?_⟩;exact cT
 ·cases y
  ·have HT2:Hid (t=f):=hii (by rw[HT.o];rfl);clear HT;rw[<-HT2.o]at hf;have hV:=hf;obtain⟨d0,d1,d2,d3⟩:=rF.n4;obtain⟨c0,c1,c2,c3⟩:=rR.n4;have fz:=rR.free;go_wp2;obtain⟨q,hk,hV⟩:=zfy rR zhK (.bool J1) (.slice ao1 n1 Y1) (.bool K1) (.slice ap1 m1 Z1) hV;obtain⟨e0,e1,e2,e3⟩:=q.n4;refine bodyPost_ret (v:=.agg #[.bool J1,.slice ao1 n1 Y1,.bool K1,.slice ap1 m1 Z1]) (by simp[results,Tryz.results61,go_sem,e0,e1,e2,e3]) rfl ⟨zd7.mk hV,?_⟩;exact cT
  ·have HT2:Hid (t=((1:Int):Rat)):=hii (by rw[HT.o];rfl);clear HT;go_wp2_with fail;go_fit (zbT 1 w3 dM dM hE);rintro e w4⟨hz,hb⟩;have rR:=rR.below hb;have hbw:=bu hbw hb;clear hb;obtain⟨J5,ao5,n5,Y5,K5,ap5,m5,Z5,rfl,hV⟩:=hz.rat;have hV:zad w4 (qA J5 ao5 n5 Y5 K5 ap5 m5 Z5) t:=by rw[HT2.o];exact hV
   clear hz;obtain⟨c0,c1,c2,c3⟩:=rR.n4;have fz:=rR.free;go_wp2;obtain⟨q,hk,hV⟩:=zfy rR zhK (.bool J5) (.slice ao5 n5 Y5) (.bool K5) (.slice ap5 m5 Z5) hV;obtain⟨e0,e1,e2,e3⟩:=q.n4;refine bodyPost_ret (v:=.agg #[.bool J5,.slice ao5 n5 Y5,.bool K5,.slice ap5 m5 Z5]) (by simp[results,Tryz.results61,go_sem,e0,e1,e2,e3]) rfl ⟨zd7.mk hV,?_⟩;exact cT
theorem zgH(L:List ((Nat×Nat)×Qo))(aa:OA)(ca:Nat)(w:Wo)(hl:L.length<=1000)(ua:EU 6 zaL w aa L)(HA:Hid (∀k x,(L.map (·.2))[k]?=some (some x)->zcI (zbc (((L.map (·.2)).take k).map zeb)) x))(hE:Env w) :
  CP 60 #[.slice aa L.length ca] w λe w'=>e=.returned (.int .i64 (zav (L.map (·.2)):Nat))/\BH w w':=by
 have hbw:=Below.refl w.heap.size w;obtain⟨E,hE1⟩:∃E,zav (L.map (·.2))=E:=⟨_,rfl⟩;rw[hE1];have HE:=hii hE1;clear hE1;obtain⟨N,hN⟩:∃N,L.length=N:=⟨_,rfl⟩;rw[hN]at hl|-;have HN:=hii hN;clear hN;go_enter func60,ntmps60;go_wp2_with fail;go_fit (zbT 0 w dM dM hE);rintro e wb⟨hz,hb⟩;have hE:=hE.mono hb;have ua:=ua.mono zag hb;have hbw:=bu hbw hb;obtain⟨J3,ao3,n3,Y3,K3,ap3,m3,Z3,rfl,hV⟩:=hz.rat;have hV:zad wb (qA J3 ao3 n3 Y3 K3 ap3 m3 Z3) 0:=hV;clear hz hb;go_upto_region 2 with fail;have hb:=bA wb (.cells #[.bool J3,.slice ao3 n3 Y3,.bool K3,.slice ap3 m3 Z3] 32);have r3:Row (wb.alloc (.cells #[.bool J3,.slice ao3 n3 Y3,.bool K3,.slice ap3 m3 Z3] 32)) wb.heap.size 32 [.bool J3,.slice ao3 n3 Y3,.bool K3,.slice ap3 m3 Z3]:=heap_alloc_new _ _;obtain⟨g3,hg⟩:∃g,g=wb.heap.size:=⟨_,rfl⟩;have Hg3:Hid (wb.heap.size<=g3):=hii oM;rw[<-hg]at r3|-;clear hg;have HbX:=hii hb;have hV:=hV.mono hb;generalize wb.alloc (.cells #[.bool J3,.slice ao3 n3 Y3,.bool K3,.slice ap3 m3 Z3] 32)=wD at*;clear hb;go_wp2_with fail;go_loopw [4] (λs wr=>∃k:Nat,k<=N/\s=.int .i64 k/\Hid (((L.take k).map (·.2)).any ziM=false)/\Hid (BH wD wr)) (λs _=>N-(intOf s).toNat)
 case atStart=>exact⟨0,Nat.zero_le _,rfl,hii sM,hii br⟩
 case round=>
  obtain⟨k,hk,rfl,HB,Hbk⟩:=hrel;have HbY:=hii (HbX.o.trans (Hbk.o.mono HbX.o.size))
  by_cases hlt:k<N
  ·obtain⟨⟨⟨r,s⟩,o⟩,hx⟩:∃x,L[k]?=some x:=⟨L[k]'(by rw[HN.o];exact hlt),gE _⟩;obtain⟨b1,off1,J1,ao1,n1,Y1,K1,ap1,m1,Z1,ea,hv,h0,h1,h2,h3,h4,h5⟩:=(ua.mono zag HbY.o).six hx;have HT:Hid ((L.take (k+1)).map (·.2)=(L.take k).map (·.2)++[o]):=hii (by rw[zaw hx];simp);have HM:Hid (o∈L.map (·.2)):=hii (List.mem_map.2 ⟨_,List.mem_of_getElem? hx,rfl⟩);have hkl:(k:Int)<(N:Int):=oM;have hEr:=hE.mono HbY.o;clear hx h0 h1;subst ea
   cases o with
   |none=>
    have hv:VQ wr (.agg #[.bool J1,.slice ao1 n1 Y1,.bool K1,.slice ap1 m1 Z1]) false:=hv;have HE1:Hid (E=1):=hii (by rw[<-HE.o];unfold zav;rw[if_pos (List.any_eq_true.2 ⟨none,HM.o,rfl⟩)]);have hbw:=Below.step hbw HbY.o nl;clear HE HM HT;go_wp2_with fail;go_fit (zfT _ wr hv hEr);rintro e we⟨rfl,hb⟩;have hbw:=bu hbw hb;clear h2 h3 h4 h5 hb;exact cZ
   |some x=>
    have hv:zad wr (qA J1 ao1 n1 Y1 K1 ap1 m1 Z1) x:=hv;obtain⟨cc,hcc⟩:∃c,zaB x.num=c:=⟨_,rfl⟩;have Hcc:=hii hcc;have hlt9:=zgE x;rw[hcc]at hlt9;clear hcc;go_wp2_with fail;go_fit (zaS _ x wr hv hEr);rintro e we⟨rfl,hb⟩;have hv:=hv.mono hb;have h2:=(hb.cell (zaf h2)).trans h2;have h3:=(hb.cell (zaf h3)).trans h3;have h4:=(hb.cell (zaf h4)).trans h4;have h5:=(hb.cell (zaf h5)).trans h5;have Hbk:=hii (Below.step Hbk.o hb nl);clear hb hEr HbY;go_wp2_with fail;go_fit (zcm _ x cc we Hcc hv);rintro e wf⟨rfl,hb⟩;have Hbk:=hii (Below.step Hbk.o hb nl);clear hb h2 h3 h4 h5 hv
    by_cases hx0:x<0
    ·have hd:decide (cc<0)=true:=by rw[hlt9];exact decide_eq_true hx0
     have HE1:Hid (E=1):=hii (by rw[<-HE.o];unfold zav;rw[if_pos (List.any_eq_true.2 ⟨some x,HM.o,decide_eq_true hx0⟩)]);have hbw:=Below.step hbw (HbX.o.trans (Hbk.o.mono HbX.o.size)) nl;have hd0:cc<0:=of_decide_eq_true hd;clear HE HM HT hlt9 hd;exact cZ
    ·have hd:decide (cc<0)=false:=by rw[hlt9];exact decide_eq_false hx0
     have HB2:Hid (((L.take (k+1)).map (·.2)).any ziM=false):=hii (by rw[HT.o,List.any_append,HB.o];simp[ziM,hx0]);have hd0:¬cc<0:=of_decide_eq_false hd;clear hlt9 hd HB HM HT;go_wp2;go_roundw
     case rel=>exact⟨k+1,oM,gM,HB2,Hbk⟩
     case measure=>exact mM
  ·have hkN:k=N:=oM;rw[hkN,List.take_of_length_le (by rw[HN.o];exact nl)]at HB;have hk2:¬(k:Int)<(N:Int):=oM;have hV:=hV.mono Hbk.o;have r3:=r3.below Hbk.o;have HX:Hid (∀j x,((L.map (·.2)).map zeb)[j]?=some x->zcI (zbc (((L.map (·.2)).map zeb).take j)) x):=hii λj x hx=>by
    rw[List.getElem?_map]at hx
    cases hq:(L.map (·.2))[j]? with
    |none=>rw[hq]at hx;cases hx
    |some o=>
     rw[hq]at hx
     cases o with
     |none=>exact absurd HB.o (by rw[Bool.not_eq_false];exact List.any_eq_true.2 ⟨none,List.mem_of_getElem? hq,rfl⟩)
     |some y=>
      cases hx
      rw[<-List.map_take];exact HA.o j y hq
   obtain⟨ps,hps⟩:∃ps,(L.map (·.2)).map zeb=ps:=⟨_,rfl⟩;have HPL:Hid (ps.length=N):=hii (by rw[<-hps,List.length_map,List.length_map,HN.o]);have HPX:Hid (∀(j:Nat)(s:(Nat×Nat)×Qo),L[j]?=some s->∃x,s.2=some x/\ps[j]?=some x):=hii λj s hs=>by
    cases hq:s.2 with
    |none=>exact absurd HB.o (by rw[Bool.not_eq_false];exact List.any_eq_true.2 ⟨none,by rw[<-hq];exact List.mem_map_of_mem (List.mem_of_getElem? hs),rfl⟩)
    |some y=>exact⟨y,rfl,by rw[<-hps,List.getElem?_map,List.getElem?_map,hs];simp[hq,zeb]⟩
   have HE2:Hid (E=if zbc ps=1 then 0 else 1):=hii (by
    have h:=zgB HX.o N (by rw[hps,HPL.o];exact nl);rw[hps,List.take_of_length_le (by rw[HPL.o];exact nl)]at h;rw[<-HE.o];exact zfY HB.o (by rw[hps];exact h))
   rw[hps]at HX;clear HE HB hkN hlt HA Hbk hps;have hV:zad wr (qA J3 ao3 n3 Y3 K3 ap3 m3 Z3) (zbc (ps.take 0)):=hV;go_wp2_with fail;go_loopw [5] (λs wr=>∃j:Nat,∃J3 ao3 n3 Y3 K3 ap3 m3 Z3,j<=N/\s=.int .i64 j/\Row wr g3 32 [.bool J3,.slice ao3 n3 Y3,.bool K3,.slice ap3 m3 Z3]/\zad wr (qA J3 ao3 n3 Y3 K3 ap3 m3 Z3) (zbc (ps.take j))/\Hid (BH wb wr)) (λs _=>N-(intOf s).toNat)
   case atStart=>exact⟨0,_,_,_,_,_,_,_,_,Nat.zero_le _,rfl,r3,hV,HbY⟩
   case round=>
    clear hV r3 HbY;obtain⟨j,J3,ao3,n3,Y3,K3,ap3,m3,Z3,hj,rfl,r3,hV,HbY⟩:=hrel
    by_cases hlt:j<N
    ·obtain⟨⟨⟨r,s⟩,o⟩,hx⟩:∃x,L[j]?=some x:=⟨L[j]'(by rw[HN.o];exact hlt),gE _⟩;obtain⟨b1,off1,J1,ao1,n1,Y1,K1,ap1,m1,Z1,ea,hv,h0,h1,h2,h3,h4,h5⟩:=(ua.mono zag HbY.o).six hx;obtain⟨x,ho,hpx⟩:=HPX.o j _ hx;have ho:o=some x:=ho;subst ho;have hv:zad wr (qA J1 ao1 n1 Y1 K1 ap1 m1 Z1) x:=hv;have HAS:=hii (HX.o j x hpx);have HT:Hid (zbc (ps.take (j+1))=zbc (ps.take j)+x):=hii (by rw[zaw hpx,zbf]);obtain⟨acc,hacc⟩:∃t,zbc (ps.take j)=t:=⟨_,rfl⟩;rw[hacc]at hV HAS HT;have hkl:(j:Int)<(N:Int):=oM;have hEr:=hE.mono HbY.o;subst ea;clear hx h0 h1 hpx hacc;go_upto_region 10 with fail;obtain⟨wc,rfl⟩:=exi wr;refine zan (wx:=wc) (λ_=>False) [(λ_ X _=>X 0=.agg #[.bool J3,.slice ao3 n3 Y3,.bool K3,.slice ap3 m3 Z3]),(λ_ X _=>X 1=.slice (sD b1 off1) N ca),(λ_ X _=>X 2=.int .i64 j),(λ_ X _=>X 3=.pointer (some ⟨b1,off1+j*6,none⟩)),(λ_ X _=>X 4=.pointer (some ⟨b1,off1+j*6+2,none⟩)),(λ_ X _=>X 5=.agg #[.bool J1,.slice ao1 n1 Y1,.bool K1,.slice ap1 m1 Z1]),(λG X W=>((λ_ W v=>∃a,v=.tuple #[a,.int .i64 0]/\zad W a (acc+x)):FV) G W (X 6)),(λG X W=>((λ_ W v=>∃a,v=.tuple #[a,.int .i64 0]/\zad W a (acc+x)):FV) G W (X 7)),(λG X W=>((FQ (acc+x)):FV) G W (X 8)),(λ_ X _=>X 9=.int .i64 0),(λ_ _ _=>True),(λ_ _ _=>True),(λ_ X _=>X 12=.int .i64 0)] [some 38,some 39,some 40,some 41,some 42,some 43,some 44,some 37,some 45,some 46,some 6,none,some 7] [none,none,none,none,none,none,none,none,none,none,some ⟨11,8,32,[bF_,nS_,bF_,nS_]⟩,none,none] [38,39,40,41,42,43,44,37,45,46,6,7] ⟨(by intro u hu k z e;subst e;simp at hu),trivial⟩ (λb h=>h) br ⟨zaa _ _ _,zaa _ _ _,zaa _ _ _,zaa _ _ _,zaa _ _ _,zaa _ _ _,(zaq (F:=λ_ W v=>∃a,v=.tuple #[a,.int .i64 0]/\zad W a (acc+x)) λG G' W W' v ⟨a,e,h⟩ hk hn hG=>⟨a,e,h.kept hk hn⟩),(zaq (F:=λ_ W v=>∃a,v=.tuple #[a,.int .i64 0]/\zad W a (acc+x)) λG G' W W' v ⟨a,e,h⟩ hk hn hG=>⟨a,e,h.kept hk hn⟩),zaQ _,zaa _ _ _,zaj _,zaj _,zaa _ _ _,trivial⟩ ⟨⟨λ_ _ _=>trivial,λ_ _ _=>trivial⟩,trivial⟩ ⟨?s0,tX,tX,tX,tX,?s5,?s6,?s7,?s8,?s9,?s10,?s11,tX,trivial⟩ ⟨?b10,trivial⟩ ?he
     case' s0|s5|s6|s7|s8|s9=>
      rintro-G T W hb hHG hGW hGo hNG hA K hK;simp only[yA,yB,Region.binds]at hA;simp only[sA,hA]at hK|-
     case' s0|s5|s6=>
      have HK:=hii hK;clear hK hA
     case' s0=>
      obtain⟨e0,e1,e2,e3⟩:=(r3.below hb).n4
     case' s5=>
      have k2:=(hb.cell (zaf h2)).trans h2;have k3:=(hb.cell (zaf h3)).trans h3;have k4:=(hb.cell (zaf h4)).trans h4;have k5:=(hb.cell (zaf h5)).trans h5
     case s0|s5=>
      exact cK
     case s6=>
      refine wO rfl ?_;go_simp;go_fit (zlS _ _ acc x W (hV.mono hb) (hv.mono hb) HAS (hEr.mono hb));rintro e w1⟨hz,hb1⟩;obtain⟨J7,ao7,n7,Y7,K7,ap7,m7,Z7,rfl,hV7⟩:=hz.rat
      try dsimp only
      exact HK.o _ _ (hb1) λX hX _=>by
       show((λ_ W v=>∃a,v=.tuple #[a,.int .i64 0]/\zad W a (acc+x)):FV) G _ (X 6)
       exact dQ
     case s7=>
      have r6:((λ_ W v=>∃a,v=.tuple #[a,.int .i64 0]/\zad W a (acc+x)):FV) G W (T 44):=hA.1;obtain⟨a6,e6,h6⟩:=r6;simp only[e6]at hK|-;have HK:=hii hK;clear hK hA;refine wO rfl ?_;go_simp;exact HK.o _ _ br λX hX _=>by
       show((λ_ W v=>∃a,v=.tuple #[a,.int .i64 0]/\zad W a (acc+x)):FV) G _ (X 7)
       exact dL
     case s8=>
      have r7:((λ_ W v=>∃a,v=.tuple #[a,.int .i64 0]/\zad W a (acc+x)):FV) G W (T 37):=hA.1;obtain⟨a6,e7,h6⟩:=r7;simp only[e7]at hK|-;have HK:=hii hK;clear hK hA;refine wO rfl ?_;go_simp;exact HK.o _ _ br λX hX _=>by
       show((FQ (acc+x)):FV) G _ (X 8)
       exact eM
     case s9=>
      have r7:((λ_ W v=>∃a,v=.tuple #[a,.int .i64 0]/\zad W a (acc+x)):FV) G W (T 37):=hA.1;obtain⟨a6,e7,h6⟩:=r7;simp only[e7]at hK|-;exact dB
     case s10=>exact λh=>absurd h dM
     case s11=>exact λh=>absurd h dM
     case b10=>
      refine⟨?_,?_⟩
      ·exact cG
      ·rintro o ho G T W nb hA hp hrow K hK;obtain rfl:=Option.some.inj ho;have ep:T 6=.pointer (sD nb 0):=hp;have r8:((FQ (acc+x)):FV) G W (T 45):=hA.2.1;have r8:zad W _ (acc+x):=r8;obtain⟨J8,ao8,n8,Y8,K8,ap8,m8,Z8,e8⟩:=r8.parts;have hK:=hK [.bool J8,.slice ao8 n8 Y8,.bool K8,.slice ap8 m8 Z8] (.inl e8) rfl (by intro u hu k z e;subst e;simp at hu);simp only[sA,ep,e8]at hK|-;exact cJ
     case he=>
      rintro GG N T W hb hHG hGW hGo hbox hNG hne hA;have fv:((FQ (acc+x)):FV) GG W (T 45):=hA.at 8 dM;have f12:T 7=.int .i64 0:=hA.at 12 dM;obtain⟨ep,_,hge,vs,hsto,hrow⟩:=hbox 10 _ rfl;have ep:T 6=.pointer (some ⟨N 10,0,none⟩):=ep;have fv:zad W _ (acc+x):=fv;obtain⟨J5,ao5,n5,Y5,K5,ap5,m5,Z5,e5⟩:=fv.parts;obtain rfl:=hsto.four e5;rw[e5]at fv;simp only[sA,ep,f12];obtain⟨g6,hg⟩:∃g,g=N 10:=⟨_,rfl⟩;rw[<-hg]at hrow hge|-;have Hg6:=hii hge;clear hA hbox hNG hne hHG hGW hGo ep f12 hsto hge e5 hg;have r6:Row W g6 32 [.bool J5,.slice ao5 n5 Y5,.bool K5,.slice ap5 m5 Z5]:=hrow;have HbY2:=hii (Below.step HbY.o hb nl);have hg36:g3<wc.heap.size:=r3.lt;have r3k:=r3.below hb;clear hb hrow hv h2 h3 h4 h5 hV hEr r3;obtain⟨wd,rfl⟩:=exi W;obtain⟨e0,e1,e2,e3⟩:=r6.n4;obtain⟨k0,k1,k2,k3⟩:=r3k.n4;have q0:=r3k.free 0;have q1:=r3k.free 1;have q2:=r3k.free 2;have q3:=r3k.free 3;have HP4:=hii (zfy r3k noI4' (.bool J5) (.slice ao5 n5 Y5) (.bool K5) (.slice ap5 m5 Z5) fv);have HbX3:=hii (HbY2.o.trans (HP4.o.2.1.below (λb e=>by rw[e];exact Hg3.o) HbY2.o.size));clear r3k fv;go_wp2;go_roundw
      case rel=>exact⟨j+1,_,_,_,_,_,_,_,_,oM,gM,HP4.o.1,by rw[HT.o];exact HP4.o.2.2,HbX3⟩
      case measure=>exact mM
    ·have hjN:j=N:=oM;rw[hjN,List.take_of_length_le (by rw[HPL.o];exact nl)]at hV;have hkl:¬(j:Int)<(N:Int):=oM;have hEr:=hE.mono HbY.o;obtain⟨t,ht⟩:∃t,zbc ps=t:=⟨_,rfl⟩;rw[ht]at hV HE2;obtain⟨z,hz⟩:∃z,decide (t=1)=z:=⟨_,rfl⟩;have HZ:=hii hz;clear ht hz hjN hlt;go_upto_region 14 with fail;obtain⟨wc,rfl⟩:=exi wr;refine zae (wx:=wc) [vf (.agg #[.bool J3,.slice ao3 n3 Y3,.bool K3,.slice ap3 m3 Z3]),(λW v=>zad W v 1),vf (.bool z),vf (.bool (!z))] [51,52,53,54] br ⟨sV _,(λ_ _ _ h hb=>h.mono hb),sV _,sV _,trivial⟩ ⟨?s0,?s1,?s2,tV,trivial⟩ ?he
     case' s0|s1|s2=>
      rintro T W hb hA K hK;simp only[yA,Region.binds]at hA;simp only[sA,hA]at hK|-
     case' s0|s1=>
      have HK:=hii hK;clear hK hA
     case s0=>
      obtain⟨e0,e1,e2,e3⟩:=(r3.below hb).n4;exact cH
     case s1=>
      refine wO rfl ?_;go_simp;go_fit (zbT 1 W dM dM (hEr.mono hb));rintro e w1⟨hz,hb1⟩;obtain⟨J7,ao7,n7,Y7,K7,ap7,m7,Z7,rfl,hV7⟩:=hz.rat;have hV7:zad w1 (qA J7 ao7 n7 Y7 K7 ap7 m7 Z7) 1:=hV7
      try dsimp only
      exact dY
     case s2=>
      have r1:=hA.2.1;have HK:=hii hK;clear hK hA;have r1:zad W _ 1:=r1;obtain⟨J6,ao6,n6,Y6,K6,ap6,m6,Z6,e1⟩:=r1.parts;rw[e1]at r1;simp only[e1]at HK|-;refine wO rfl ?_;go_simp;go_fit (zju HZ (hV.mono hb) r1 (hEr.mono hb));rintro e w1⟨rfl,hb1⟩
      try dsimp only
      exact d6
     case he=>
      rintro T W hb hA;have f3:T 54=.bool (!z):=hA.at 3 dM;simp only[sA,f3];have hbw:=Below.step hbw (HbY.o.trans (hb.mono HbY.o.size)) nl;clear hA f3 hb
      cases z with
      |true=>
       have HE3:Hid (E=0):=hii (by rw[HE2.o,if_pos (of_decide_eq_true HZ.o)]);clear HE2;exact dH
      |false=>
       have HE3:Hid (E=1):=hii (by rw[HE2.o,if_neg (of_decide_eq_false HZ.o)]);clear HE2;exact dH
theorem WkM.fK{R S:LN}{f:Rat}{cap:List Rat}{m:Nat}(W:WkM R S f cap m):Kb 1 f:=zcs (D:=((12:Nat):Int)) dM dM W.wf dM
theorem zfA.notEmpty{l:LN}{n:Nat}(h:zfA l n):zbr l=false:=by
 match l,h with
 |[],h=>exact absurd h.len.1 dM
 |x :: r,h=>exact decide_eq_false (h.ne x sM)
theorem zmp(r:Rat):decide (zaB r.num<=0)=decide (r<=0):=by
 have h0:r.num=0↔r=0:=Rat.num_eq_zero;have h1:0<=r.num↔0<=r:=Rat.num_nonneg;have h:0<r.num↔0<r:=by
  constructor
  ·intro h;rcases Rat.le_iff_lt_or_eq.1 (h1.1 oM)with h2|h2
   ·exact h2
   ·have:=h0.2 h2.symm;omega
  ·intro h;have h2:=h1.2 (Rat.le_of_lt h);have h3:r.num≠0:=λe=>by rw[h0.1 e]at h;exact Rat.lt_irrefl h
   omega
 rw[Bool.eq_iff_iff,decide_eq_true_iff,decide_eq_true_iff,<-Rat.not_lt,<-h];unfold zaB
 split
 ·omega
 ·split<;>omega
theorem zjt(R S:LN)(f:Rat)(cap:List Rat)(m:Nat)(HW:Hid (WkM R S f cap m))(aR aS aC:OA)(cR cS cC:Nat){K1:Bool}(w:Wo)(uR:zaF w aR R)(uS:zaF w aS S)(hf:zad w (qA J1 ao1 n1 Y1 K1 ap1 m1 Z1) f)(uC:UQ w aC (cap.map some))(hE:Env w) :
  CP 58 #[.slice aR R.length cR,.slice aS S.length cS,.agg #[.bool J1,.slice ao1 n1 Y1,.bool K1,.slice ap1 m1 Z1],.slice aC cap.length cC] w λe w'=>e=.returned (.int .i64 0)/\BH w w':=by
 have hbw:=Below.refl w.heap.size w;have hm:=HW.o.hm;have HLc:=hii HW.o.lc;rw[HLc.o];have HVR:Hid (∀w,zaF w aR R->CP 42 #[.slice aR R.length cR] w λe w'=>e=.returned (.int .i64 0)/\BH w w'):=hii λw u=>by
  have h:=zdk R aR cR w HW.o.fR.len.2 u (hii (HW.o.fR.s16 oM));rw[HW.o.fR.err oM]at h;exact h
 have HVS:Hid (∀w,zaF w aS S->CP 42 #[.slice aS S.length cS] w λe w'=>e=.returned (.int .i64 0)/\BH w w'):=hii λw u=>by
  have h:=zdk S aS cS w HW.o.fS.len.2 u (hii (HW.o.fS.s16 oM));rw[HW.o.fS.err oM]at h;exact h
 have HQR:Hid (∀w,zaF w aR R->CP 43 #[.slice aR R.length cR] w λe w'=>e=.returned (.int .i64 0)/\BH w w'):=hii λw u=>by
  have h:=zdN R aR cR w (by have:=HW.o.fR.len.2;omega) u;rw[HW.o.fR.notEmpty]at h;exact h
 have HQS:Hid (∀w,zaF w aS S->CP 43 #[.slice aS S.length cS] w λe w'=>e=.returned (.int .i64 0)/\BH w w'):=hii λw u=>by
  have h:=zdN S aS cS w (by have:=HW.o.fS.len.2;omega) u;rw[HW.o.fS.notEmpty]at h;exact h
 have HBR:Hid (∀w,zaF w aR R->CP 44 #[.slice aR R.length cR,.int .i64 (m:Nat)] w λe w'=>e=.returned (.bool true)/\BH w w'):=hii λw u=>by
  have h:=zfR R m aR cR w (by have:=HW.o.fR.len.2;omega) hm.1 oM u;rw[List.all_eq_true.2 λx hx=>decide_eq_true (HW.o.fR.low x hx)]at h;exact h
 have HBS:Hid (∀w,zaF w aS S->CP 44 #[.slice aS S.length cS,.int .i64 (m:Nat)] w λe w'=>e=.returned (.bool true)/\BH w w'):=hii λw u=>by
  have h:=zfR S m aS cS w (by have:=HW.o.fS.len.2;omega) hm.1 oM u;rw[List.all_eq_true.2 λx hx=>decide_eq_true (HW.o.fS.low x hx)]at h;exact h
 have HSB:=hii (kb1.subS HW.o.fK dM);obtain⟨sf,hsf⟩:∃s,zaB f.num=s:=⟨_,rfl⟩;have Hsf:=hii hsf;have hsf0:¬sf<0:=of_decide_eq_false (by rw[<-hsf,zgE];exact decide_eq_false (Rat.not_lt.2 HW.o.f0));obtain⟨q,hq⟩:∃q,1-f=q:=⟨_,rfl⟩;have Hq:=hii hq;obtain⟨sq,hsq⟩:∃s,zaB q.num=s:=⟨_,rfl⟩;have Hsq:=hii hsq;have hsq0:¬sq<0:=of_decide_eq_false (by
  rw[<-hsq,zgE];refine decide_eq_false (Rat.not_lt.2 ?_);rw[<-hq];have:=HW.o.f1
  grind)
 clear hsf hsq hq;go_enter func58,ntmps58;go_upto_region 1 with fail;obtain⟨w1,g6,hw9,hg9,hb,r6⟩:=bxr w [.bool J1,.slice ao1 n1 Y1,.bool K1,.slice ap1 m1 Z1] 32;rw[<-hw9,<-hg9];have Hg6:Hid (w.heap.size<=g6):=hii (by have:=hbw.size;omega);clear hw9 hg9;have uR:=uR.mono hb;have uS:=uS.mono hb;have hf:=hf.mono hb;have uC:=uC.mono hb;have hE:=hE.mono hb;have hbw:=bu hbw hb;clear hb;go_wp2_with fail;go_fit (HVR.o w1 uR);rintro e w2⟨rfl,hb⟩;have uR:=uR.mono hb;have uS:=uS.mono hb;have hf:=hf.mono hb;have uC:=uC.mono hb;have hE:=hE.mono hb;have r6:=r6.below hb;have hbw:=bu hbw hb;clear hb;go_wp2_with fail;go_fit (HVS.o w2 uS);rintro e w3⟨rfl,hb⟩;have uR:=uR.mono hb;have uS:=uS.mono hb;have hf:=hf.mono hb;have uC:=uC.mono hb;have hE:=hE.mono hb;have r6:=r6.below hb;have hbw:=bu hbw hb;clear hb;go_wp2_with fail;go_fit (HQR.o w3 uR);rintro e w4⟨rfl,hb⟩;have uR:=uR.mono hb;have uS:=uS.mono hb;have hf:=hf.mono hb;have uC:=uC.mono hb;have hE:=hE.mono hb;have r6:=r6.below hb;have hbw:=bu hbw hb;clear hb;go_wp2_with fail;go_fit (HQS.o w4 uS);rintro e w5⟨rfl,hb⟩;have uR:=uR.mono hb;have uS:=uS.mono hb;have hf:=hf.mono hb;have uC:=uC.mono hb;have hE:=hE.mono hb;have r6:=r6.below hb;have hbw:=bu hbw hb;clear hb;clear HVR HVS HQR HQS;obtain⟨k0,k1,k2,k3⟩:=r6.n4;go_wp2_with fail;go_fit (zaS _ f w5 hf hE);rintro e w6⟨rfl,hb⟩;have uR:=uR.mono hb;have uS:=uS.mono hb;have hf:=hf.mono hb;have uC:=uC.mono hb;have hE:=hE.mono hb;have r6:=r6.below hb;have hbw:=bu hbw hb;clear hb;clear k0 k1 k2 k3;go_wp2_with fail;go_loopw [12] (λs wr=>∃k:Nat,k<=m/\s=.int .i64 k/\Hid (BH w6 wr)) (λs _=>m-(intOf s).toNat)
 case atStart=>exact⟨0,Nat.zero_le _,rfl,hii br⟩
 case round=>
  obtain⟨k,hk,rfl,Hbk⟩:=hrel
  by_cases hlt:k<m
  ·obtain⟨c,hcx⟩:∃c,cap[k]?=some c:=⟨cap[k]'(by rw[HLc.o];exact hlt),gE _⟩;obtain⟨bC,offC,J4,ao4,n4,Y4,K4,ap4,m4,Z4,eC,z4,hvc⟩:=(uC.mono Hbk.o) k (some c) (by rw[List.getElem?_map,hcx];rfl);have hvc:zad wr (qA J4 ao4 n4 Y4 K4 ap4 m4 Z4) c:=hvc;have HM:=hii (List.mem_of_getElem? hcx);have hkm:(k:Int)<(m:Int):=oM;subst eC;clear hcx;obtain⟨f0,f1,f2,f3,_,_,_,_⟩:=z4;have hEr:=hE.mono Hbk.o;go_wp2_with fail;go_fit (zaS _ c wr hvc hEr);rintro e we⟨rfl,hb⟩;have Hbk:=hii (Below.step Hbk.o hb nl);clear hb f0 f1 f2 f3 hvc hEr;go_wp2;go_roundw
   case rel=>exact⟨k+1,oM,gM,Hbk⟩
   case measure=>exact mM
  ·obtain rfl:k=m:=oM;have hm1:¬(k:Int)<1:=oM;have hm12:¬(12:Int)<(k:Int):=oM;have hkk:¬(k:Int)<(k:Int):=oM;have hb:=Hbk.o;have uR:=uR.mono hb;have uS:=uS.mono hb;have hf:=hf.mono hb;have uC:=uC.mono hb;have hE:=hE.mono hb;have r6:=r6.below hb;have hbw:=bu hbw hb;clear hb;clear Hbk;go_upto_region 19 with fail;obtain⟨wc,rfl⟩:=exi wr;refine zan (wx:=wc) (λ_=>False) [(λG X W=>((FQ 1):FV) G W (X 0)),(λ_ X _=>X 1=.agg #[.bool J1,.slice ao1 n1 Y1,.bool K1,.slice ap1 m1 Z1]),(λG X W=>((λ_ W v=>∃a,v=.tuple #[a,.int .i64 0]/\zad W a (q)):FV) G W (X 2)),(λG X W=>((λ_ W v=>∃a,v=.tuple #[a,.int .i64 0]/\zad W a (q)):FV) G W (X 3)),(λG X W=>((FQ (q)):FV) G W (X 4)),(λ_ X _=>X 5=.int .i64 0),(λ_ _ _=>True),(λ_ _ _=>True),(λ_ X _=>X 8=.int .i64 0)] [some 57,some 58,some 59,some 56,some 60,some 61,some 13,none,some 14] [none,none,none,none,none,none,some ⟨7,4,32,[bF_,nS_,bF_,nS_]⟩,none,none] [57,58,59,56,60,61,13,14] ⟨(by intro u hu k z e;subst e;simp at hu),trivial⟩ (λb h=>h) br ⟨zaQ _,zaa _ _ _,(zaq (F:=λ_ W v=>∃a,v=.tuple #[a,.int .i64 0]/\zad W a (q)) λG G' W W' v ⟨a,e,h⟩ hk hn hG=>⟨a,e,h.kept hk hn⟩),(zaq (F:=λ_ W v=>∃a,v=.tuple #[a,.int .i64 0]/\zad W a (q)) λG G' W W' v ⟨a,e,h⟩ hk hn hG=>⟨a,e,h.kept hk hn⟩),zaQ _,zaa _ _ _,zaj _,zaj _,zaa _ _ _,trivial⟩ ⟨⟨λ_ _ _=>trivial,λ_ _ _=>trivial⟩,trivial⟩ ⟨?s0,?s1,?s2,?s3,?s4,?s5,?s6,?s7,tX,trivial⟩ ⟨?b6,trivial⟩ ?he
   case' s0|s1|s2|s3|s4|s5=>
    rintro-G T W hb hHG hGW hGo hNG hA K hK;simp only[yA,yB,Region.binds]at hA;simp only[sA,hA]at hK|-
   case' s0|s1=>
    have HK:=hii hK;clear hK hA
   case s0=>
    refine wO rfl ?_;go_simp;go_fit (zbT 1 W dM dM (hE.mono hb));rintro e w1⟨hz,hb1⟩;obtain⟨J7,ao7,n7,Y7,K7,ap7,m7,Z7,rfl,hV7⟩:=hz.rat;have hV7:zad w1 (qA J7 ao7 n7 Y7 K7 ap7 m7 Z7) 1:=hV7
    try dsimp only
    exact HK.o _ _ (hb1) λX hX _=>by
     show((FQ 1):FV) G _ (X 0)
     rw[hX];exact hV7
   case s1=>
    obtain⟨k0,k1,k2,k3⟩:=(r6.below hb).n4;exact cK
   case s2=>
    have r0:((FQ 1):FV) G W (T 57):=hA.1;have r0:zad W _ 1:=r0;obtain⟨J7,ao7,n7,Y7,K7,ap7,m7,Z7,e0⟩:=r0.parts;rw[e0]at r0;simp only[e0]at hK|-;have HK:=hii hK;clear hK hA;refine wO rfl ?_;go_simp;go_fit (zlQ _ _ 1 f W r0 (hf.mono hb) HSB (hE.mono hb));rw[Hq.o];rintro e w1⟨hz,hb1⟩;obtain⟨J6,ao6,n6,Y6,K6,ap6,m6,Z6,rfl,hV6⟩:=hz.rat
    try dsimp only
    exact HK.o _ _ (hb1) λX hX _=>by
     show((λ_ W v=>∃a,v=.tuple #[a,.int .i64 0]/\zad W a (q)):FV) G _ (X 2)
     rw[hX];exact⟨_,rfl,hV6⟩
   case s3=>
    have r2:((λ_ W v=>∃a,v=.tuple #[a,.int .i64 0]/\zad W a (q)):FV) G W (T 59):=hA.1;obtain⟨a6,e2,h6⟩:=r2;simp only[e2]at hK|-;have HK:=hii hK;clear hK hA;refine wO rfl ?_;go_simp;exact HK.o _ _ br λX hX _=>by
     show((λ_ W v=>∃a,v=.tuple #[a,.int .i64 0]/\zad W a (q)):FV) G _ (X 3)
     exact dL
   case s4=>
    have r3:((λ_ W v=>∃a,v=.tuple #[a,.int .i64 0]/\zad W a (q)):FV) G W (T 56):=hA.1;obtain⟨a6,e3,h6⟩:=r3;simp only[e3]at hK|-;have HK:=hii hK;clear hK hA;refine wO rfl ?_;go_simp;exact HK.o _ _ br λX hX _=>by
     show((FQ (q)):FV) G _ (X 4)
     exact eM
   case s5=>
    have r3:((λ_ W v=>∃a,v=.tuple #[a,.int .i64 0]/\zad W a (q)):FV) G W (T 56):=hA.1;obtain⟨a6,e3,h6⟩:=r3;simp only[e3]at hK|-;exact dB
   case s6=>exact λh=>absurd h dM
   case s7=>exact λh=>absurd h dM
   case b6=>
    refine⟨?_,?_⟩
    ·exact cG
    ·rintro o ho G T W nb hA hp hrow K hK;obtain rfl:=Option.some.inj ho;have ep:T 13=.pointer (sD nb 0):=hp;have r4:((FQ (q)):FV) G W (T 60):=hA.2.1;have r4:zad W _ (q):=r4;exact dA
   case he=>
    rintro GG N T W hb hHG hGW hGo hbox hNG hne hA;have fv:((FQ (q)):FV) GG W (T 60):=hA.at 4 dM;have f8:T 14=.int .i64 0:=hA.at 8 dM;obtain⟨ep,_,hge,vs,hsto,hrow⟩:=hbox 6 _ rfl;have ep:T 13=.pointer (some ⟨N 6,0,none⟩):=ep;have fv:zad W _ (q):=fv;obtain⟨J6,ao6,n6,Y6,K6,ap6,m6,Z6,e5⟩:=fv.parts;obtain rfl:=hsto.four e5;rw[e5]at fv;simp only[sA,ep,f8];obtain⟨g13,hg⟩:∃g,g=N 6:=⟨_,rfl⟩;rw[<-hg]at hrow hge|-;have Hg13:=hii hge;clear hA hbox hNG hne hHG hGW hGo ep f8 hsto hge e5 hg;have r13:Row W g13 32 [.bool J6,.slice ao6 n6 Y6,.bool K6,.slice ap6 m6 Z6]:=hrow;clear hrow;have uR:=uR.mono hb;have uS:=uS.mono hb;have hf:=hf.mono hb;have uC:=uC.mono hb;have r6:=r6.below hb;have hbw:=bu hbw hb;clear hb;obtain⟨wd,rfl⟩:=exi W;obtain⟨k0,k1,k2,k3⟩:=r6.n4;go_wp2_with fail;go_fit (zcm _ f sf wd Hsf hf);rintro e we⟨rfl,hb⟩;have uR:=uR.mono hb;have uS:=uS.mono hb;have uC:=uC.mono hb;have fv:=fv.mono hb;have r13:=r13.below hb;have hbw:=bu hbw hb;clear hb;clear k0 k1 k2 k3;obtain⟨k0,k1,k2,k3⟩:=r13.n4;go_wp2_with fail;go_fit (zcm _ q sq we Hsq fv);rintro e wf⟨rfl,hb⟩;have uR:=uR.mono hb;have uS:=uS.mono hb;have uC:=uC.mono hb;have hbw:=bu hbw hb;clear hb;clear k0 k1 k2 k3;go_wp2_with fail;go_fit (HBR.o wf uR);rintro e wg⟨rfl,hb⟩;have uS:=uS.mono hb;have uC:=uC.mono hb;have hbw:=bu hbw hb;clear hb;go_wp2_with fail;go_fit (HBS.o wg uS);rintro e wh⟨rfl,hb⟩;have uC:=uC.mono hb;have hbw:=bu hbw hb;clear hb;clear HBR HBS;go_wp2_with fail;go_loopw [15] (λs wr=>∃i:Nat,i<=k/\s=.int .i64 i/\Hid (BH wh wr)) (λs _=>k-(intOf s).toNat)
    case atStart=>exact⟨0,Nat.zero_le _,rfl,hii br⟩
    case round=>
     obtain⟨i,hi,rfl,Hbk⟩:=hrel
     by_cases hlt:i<k
     ·obtain⟨c,hcx⟩:∃c,cap[i]?=some c:=⟨cap[i]'(by rw[HLc.o];exact hlt),gE _⟩;obtain⟨bC,offC,J4,ao4,n4,Y4,K4,ap4,m4,Z4,eC,z4,hvc⟩:=(uC.mono Hbk.o) i (some c) (by rw[List.getElem?_map,hcx];rfl);have hvc:zad wr (qA J4 ao4 n4 Y4 K4 ap4 m4 Z4) c:=hvc;have HM:=hii (List.mem_of_getElem? hcx);have hkm:(i:Int)<(k:Int):=oM;subst eC;clear hcx;obtain⟨f0,f1,f2,f3,_,_,_,_⟩:=z4;obtain⟨sc,hsc⟩:∃s,zaB c.num=s:=⟨_,rfl⟩;have Hsc:=hii hsc;have hsc0:¬sc<=0:=of_decide_eq_false (by rw[<-hsc,zmp];exact decide_eq_false (Rat.not_le.2 (HW.o.pc c HM.o)));clear hsc;go_wp2_with fail;go_fit (zcm _ c sc wr Hsc hvc);rintro e wi⟨rfl,hb⟩;have Hbk:=hii (Below.step Hbk.o hb nl);clear hb f0 f1 f2 f3 hvc;go_wp2;go_roundw
      case rel=>exact⟨i+1,oM,gM,Hbk⟩
      case measure=>exact mM
     ·have hin:¬(i:Int)<(k:Int):=oM;have hbw:=Below.step hbw Hbk.o nl;exact cP
end Go.Proofs.YtfgffkmddanjjaaGreatDoor
