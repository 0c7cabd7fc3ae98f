/-
  load: the load of a strategy.
-/
import Derived.Test.YtfgffkmddanjjaaGreatDoorLm
import Derived.Test.YtfgffkmddanjjaaGreatDoorFlowX
set_option linter.unusedVariables false
set_option linter.unusedSimpArgs false
set_option maxRecDepth 100000
set_option maxHeartbeats 25600000
namespace Go.Proofs.YtfgffkmddanjjaaGreatDoor
open _root_.Go.Proofs.Tryz
open Go.RowKit
variable {J1:Bool} {Y1 Z1 m1 n1:Nat} {ao1 ap1:OA}
theorem zfn(a b:Rat):decide (0<Rq.cmpQ a b)=decide (b<a):=by
 unfold Rq.cmpQ
 split
 ·next h=>simp;exact Rat.not_lt.2 (Rat.le_of_lt h)
 ·next h=>
  split
  ·next h2=>simp[h2]
  ·next h2=>simp;exact h2
def OfS(f:Rat)(cap:List Rat)(sh:List ((Nat×Nat)×Rat)):Prop:=∀i,i<cap.length->(∀(j:Nat)(s:(Nat×Nat)×Rat),sh[j]?=some s->zeN s.2 (wt f s.1 i)/\zcI (tS f (sh.take j) i) (s.2*wt f s.1 i))/\zlI (tS f sh i) (cap.getD i 0)/\CrS (tS f sh i / cap.getD i 0) (mxS f cap sh i)
def zaX(R S:LN)(s:(Nat×Nat)×Qo):Bool:=!(R.any λy=>decide (y=s.1.1)) || !(S.any λy=>decide (y=s.1.2))
def OfR(R S:LN)(f:Rat)(cap:List Rat)(L:List ((Nat×Nat)×Qo))(w':Wo)(e:Ending):Prop :=
 (L.any (zaX R S)=true/\NoQ 1 e)\/(L.any (zaX R S)=false/\zav (L.map (·.2))≠0/\NoQ (zav (L.map (·.2)):Nat) e) \/
 (L.any (zaX R S)=false/\zav (L.map (·.2))=0/\∃sh,L=shQ sh/\zb3 w' (mxS f cap sh cap.length) e)
theorem zi4{f:Rat}{sh:List ((Nat×Nat)×Rat)}{j i:Nat}{s:(Nat×Nat)×Rat}(h:sh[j]?=some s):tS f (sh.take (j+1)) i=tS f (sh.take j) i+s.2*wt f s.1 i:=by
 unfold tS;rw[zaw h,List.map_append];exact zbf _ _
theorem zb3.mk{w:Wo}{K1:Bool}{r:Rat}(h:zad w (qA J1 ao1 n1 Y1 K1 ap1 m1 Z1) r):zb3 w r (.returned (.tuple #[.agg #[.bool J1,.slice ao1 n1 Y1,.bool K1,.slice ap1 m1 Z1],.int .i64 0])):=by
 obtain⟨_,_,_,_,_,_,_,_,e,h1,h2⟩:=h
 cases e
 exact⟨_,_,_,_,_,_,_,_,rfl,hii h1,hii h2⟩
theorem zoa(R S:LN)(f:Rat)(cap:List Rat)(g gp:Nat)(s:(Nat×Nat)×Qo){K1:Bool}(w:Wo)(hR:R.length<=1000000)(hS:S.length<=1000000)(rp:Row w gp 93 [pT g 0])(hW:zd4 w g R S f cap) :
  CP 105 #[.agg #[.int .u16 (s.1.1:Nat),.int .u16 (s.1.2:Nat),.bool J1,.slice ao1 n1 Y1,.bool K1,.slice ap1 m1 Z1],pT gp 0] w λe w'=>e=.returned (.bool (zaX R S s))/\BH w w':=by
 have hbw:=Below.refl w.heap.size w;obtain⟨bR,hbR⟩:∃b,(R.any λy=>decide (y=s.1.1))=b:=⟨_,rfl⟩;obtain⟨bS,hbS⟩:∃b,(S.any λy=>decide (y=s.1.2))=b:=⟨_,rfl⟩;obtain⟨z,hz⟩:∃z,zaX R S s=z:=⟨_,rfl⟩;have HZ:Hid (z=(!bR || !bS)):=hii (by rw[<-hz];unfold zaX;rw[hbR,hbS]);rw[hz];clear hz;go_enter func105,ntmps105;go_upto_region 1 with fail;obtain⟨w1,g2,hw9,hg9,hb,r2⟩:=bxr w [.int .u16 (s.1.1:Nat),.int .u16 (s.1.2:Nat),.bool J1,.slice ao1 n1 Y1,.bool K1,.slice ap1 m1 Z1] 59;rw[<-hw9,<-hg9];have Hg2:Hid (w.heap.size<=g2):=hii (by have:=hbw.size;omega);clear hw9 hg9;have hW:=hW.mono hb;have rp:=rp.below hb;have hbw:=bu hbw hb;clear hb;obtain⟨aR,cR,aS,cS,J3,ao3,n3,Y3,K3,ap3,m3,Z3,J4,ao4,n4,Y4,K4,ap4,m4,Z4,aC,cC,rW,uR,uS,-⟩:=hW;have HCR:Hid (∀W,BH w1 W->CP 106 #[.slice aR R.length cR,.int .u16 (s.1.1:Nat)] W λe w'=>e=.returned (.bool bR)/\BH W w'):=hii λW hb=>by
  have h:=zcB R s.1.1 aR cR W hR (uR.mono hb);rw[hbR]at h;exact h
 have HCS:Hid (∀W,BH w1 W->CP 106 #[.slice aS S.length cS,.int .u16 (s.1.2:Nat)] W λe w'=>e=.returned (.bool bS)/\BH W w'):=hii λW hb=>by
  have h:=zcB S s.1.2 aS cS W hS (uS.mono hb);rw[hbS]at h;exact h
 clear uR uS hbR hbS
 cases bR
 ·have HZ:Hid (z=true):=hii (by rw[HZ.o];rfl);refine zae (wx:=w1) [vf (pT g 0),vf (pT g 0),vf (pT g 0),vf (.slice aR R.length cR),vf (pT g2 0),vf (.int .u16 (s.1.1:Nat)),vf bF_,vf (.bool true),vf (.bool true),vf undef,vf undef,vf undef,vf undef,vf undef,vf undef,vf undef,vf undef,vf (.bool true),vf (.bool true)] [4,5,6,7,8,9,10,11,12,13,14,15,16,17,18,19,20,21,3] br zS ⟨?s0,tV,tV,?s3,tV,?s5,?s6,tV,tV,tU,tU,tU,tU,tU,tU,tU,tU,tV,tV,trivial⟩ ?he
  case' s0|s3|s5|s6=>
   rintro T W hb hA K hK;simp only[yA,Region.binds]at hA;simp only[sA,hA]at hK|-;have HK:=hii hK;clear hK hA
  case' s0=>
   have d0:=(rp.below hb).cell (k:=0) sM;simp only[List.getElem_cons_zero]at d0
  case' s3=>
   obtain⟨k0,k1,-⟩:=(rW.below hb).n11
  case' s5=>
   obtain⟨h0,h1,-,-,-,-⟩:=(r2.below hb).n6
  case s0|s3|s5=>
   exact cH
  case s6=>
   refine wO rfl ?_;go_simp;go_fit (HCR.o W hb);rintro e w1⟨rfl,hb1⟩
   try dsimp only
   exact d6
  case he=>
   rintro T W hb hA;have f18:T 3=.bool true:=hA.at 18 dM;simp only[sA,f18];have hbw:=bu hbw hb;clear hA f18;go_wp2;go_ret;exact⟨by rw[HZ.o];rfl,hbw⟩
 ·have HZ:Hid (z=!bS):=hii (by rw[HZ.o];rfl);refine zae (wx:=w1) [vf (pT g 0),vf (pT g 0),vf (pT g 0),vf (.slice aR R.length cR),vf (pT g2 0),vf (.int .u16 (s.1.1:Nat)),vf (.bool true),vf bF_,vf bF_,vf (pT g 0),vf (pT g 0),vf (pT g 1),vf (.slice aS S.length cS),vf (pT g2 1),vf (.int .u16 (s.1.2:Nat)),vf (.bool bS),vf (.bool (!bS)),vf (.bool (!bS)),vf (.bool (!bS))] [4,5,6,7,8,9,10,11,12,13,14,15,16,17,18,19,20,21,3] br zS ⟨?s0,tV,tV,?s3,tV,?s5,?s6,tV,tV,?s9,tV,tV,?s12,tV,?s14,?s15,tV,tV,tV,trivial⟩ ?he
  case' s0|s3|s5|s6|s9|s12|s14|s15=>
   rintro T W hb hA K hK;simp only[yA,Region.binds]at hA;simp only[sA,hA]at hK|-;have HK:=hii hK;clear hK hA
  case' s0|s9=>
   have d0:=(rp.below hb).cell (k:=0) sM;simp only[List.getElem_cons_zero]at d0
  case' s3|s12=>
   obtain⟨k0,k1,-⟩:=(rW.below hb).n11
  case' s5|s14=>
   obtain⟨h0,h1,-,-,-,-⟩:=(r2.below hb).n6
  case s0|s3|s5|s9|s12|s14=>
   exact cH
  case s6=>
   refine wO rfl ?_;go_simp;go_fit (HCR.o W hb);rintro e w1⟨rfl,hb1⟩
   try dsimp only
   exact d6
  case s15=>
   refine wO rfl ?_;go_simp;go_fit (HCS.o W hb);rintro e w1⟨rfl,hb1⟩
   try dsimp only
   exact d6
  case he=>
   rintro T W hb hA;have f18:T 3=.bool (!bS):=hA.at 18 dM;simp only[sA,f18];have hbw:=bu hbw hb;clear hA f18;go_wp2;go_ret;exact⟨by rw[HZ.o];rfl,hbw⟩
theorem zn9(R S:LN)(f:Rat)(cap:List Rat)(g m:Nat)(L:List ((Nat×Nat)×Qo))(aL:OA)(cL:Nat)(w:Wo)(hR:R.length<=1000000)(hS:S.length<=1000000)(hL:L.length<=1000)(hc:Hid (cap.length=m))(hm:m<=12)(h16:Hid (zaR R/\zaR S))(hpc:Hid (∀c∈cap,0<c))(hW:zd4 w g R S f cap)(uL:EU 6 zaL w aL L)(hE:Env w)
  (Hsz:Hid (L.any (zaX R S)=false->zav (L.map (·.2))=0->∃sh,L=shQ sh/\OfS f cap sh)) :
  CP 57 #[pT g 0,.slice aL L.length cL] w λe w'=>OfR R S f cap L w' e/\BH w w':=by
 have hbw:=Below.refl w.heap.size w;go_enter func57,ntmps57;go_upto_region 1 with fail;obtain⟨wx,hwx,rp,r4,hb⟩:=zaH w 93 32 [pT g 0] [bF_,nS_,bF_,nS_];simp only[List.toArray]at hwx;rw[<-hwx];clear hwx;obtain⟨wA,rfl⟩:=exi wx;obtain⟨g4,hg4⟩:=exi (w.heap.size+1);have Hg4:Hid (w.heap.size<=g4):=hii oM;rw[<-hg4]at r4|-;clear hg4;obtain⟨gp,hgp⟩:=exi (w.heap.size);have Hgp:Hid (w.heap.size<=gp):=hii oM;rw[<-hgp]at rp|-;clear hgp;have hW:=hW.mono hb;have uL:=uL.mono zag hb;have hE:=hE.mono hb;have hbw:=bu hbw hb;clear hb;have eg:∀args w,(callFunc 105 args).run Tryz.prog w=.ok (.enter 105 args) w:=enters_of func105 (by kernel_rfl) rfl;have HK:=zfu 105 #[pT gp 0] (zaX R S) eg L aL cL wA oM uL (λs J1 ao1 n1 Y1 K1 ap1 m1 Z1 W _ _ hb=>zoa R S f cap g gp s W hR hS (rp.below hb) (hW.mono hb));obtain⟨b,hb9⟩:∃b,L.any (zaX R S)=b:=⟨_,rfl⟩;have Hb9:=hii hb9;rw[hb9]at HK;clear hb9 eg;have d0:=rp.cell (k:=0) sM;simp only[List.getElem_cons_zero]at d0;go_wp2_with fail;(with_reducible refine HK.mono ?_);rintro e wB⟨rfl,hb⟩;have hW:=hW.mono hb;have uL:=uL.mono zag hb;have hE:=hE.mono hb;have rp:=rp.below hb;have r4:=r4.below hb;have hbw:=bu hbw hb;clear hb;clear HK d0
 cases b
 case true=>
  obtain⟨p0,p1,p2,p3⟩:=r4.n4;have q0:=r4.free 0;have q1:=r4.free 1;have q2:=r4.free 2;have q3:=r4.free 3;have R9:=(((r4.set 0 bF_).set 1 nS_).set 2 bF_).set 3 nS_;have R9:=hii R9;have HB9:=hii hbw;go_wp2;obtain⟨e0,e1,e2,e3⟩:=Row.n4 R9.o;refine bodyPost_ret (v:=.tuple #[.agg #[bF_,nS_,bF_,nS_],.int .i64 (1)]) (by simp[results,Tryz.results57,go_sem,e0,e1,e2,e3]) rfl ⟨.inl ⟨Hb9.o,rfl⟩,?_⟩;exact HB9.o.trans ((zfW wB g4 _ _ _ _).below (λb e=>by rw[e];exact Hg4.o) HB9.o.size)
 have HP:=zhI L aL cL wB oM uL hE;obtain⟨E,hE1⟩:∃E,zav (L.map (·.2))=E:=⟨_,rfl⟩;have HE1:=hii hE1;rw[hE1]at HP;clear hE1;go_wp2_with fail;(with_reducible refine HP.mono ?_);rintro e wC⟨rfl,hb⟩;have hW:=hW.mono hb;have uL:=uL.mono zag hb;have hE:=hE.mono hb;have rp:=rp.below hb;have r4:=r4.below hb;have hbw:=bu hbw hb;clear hb;clear HP
 by_cases hE0:E=0
 case neg=>
  have hEn:((E:Int) != 0)=true:=by simp;omega
  have hEx:Hid (E≠0):=hii hE0;clear hE0;obtain⟨p0,p1,p2,p3⟩:=r4.n4;have q0:=r4.free 0;have q1:=r4.free 1;have q2:=r4.free 2;have q3:=r4.free 3;have R9:=(((r4.set 0 bF_).set 1 nS_).set 2 bF_).set 3 nS_;have R9:=hii R9;have HB9:=hii hbw;go_wp2;obtain⟨e0,e1,e2,e3⟩:=Row.n4 R9.o;refine bodyPost_ret (v:=.tuple #[.agg #[bF_,nS_,bF_,nS_],.int .i64 ((E:Nat))]) (by simp[results,Tryz.results57,go_sem,e0,e1,e2,e3]) rfl ⟨.inr (.inl ⟨Hb9.o,by rw[HE1.o];exact hEx.o,by rw[HE1.o];rfl⟩),?_⟩;exact dU
 subst hE0;obtain⟨sh,hsh,hOf⟩:=Hsz.o Hb9.o HE1.o;have Hsh:=hii hsh;have HOf:=hii hOf;obtain⟨N,hN⟩:∃N,L.length=N:=⟨_,rfl⟩;have HN:=hii hN;have HNs:Hid (sh.length=N):=hii (by rw[<-hN,hsh];simp[shQ]);rw[hN]at hL|-;clear hsh hOf hN;go_wp2_with fail;go_fit (zaK 0 dM dM wC hE);rintro e wb⟨hz,hb⟩;have hW:=hW.mono hb;have uL:=uL.mono zag hb;have hE:=hE.mono hb;have rp:=rp.below hb;have r4:=r4.below hb;have hbw:=bu hbw hb;clear hb;obtain⟨J3,ao3,n3,Y3,K3,ap3,m3,Z3,rfl,hV⟩:=hz.rat;have hV:zad wb (qA J3 ao3 n3 Y3 K3 ap3 m3 Z3) (mxS f cap sh 0):=hV;clear hz;go_upto_region 7 with fail;have hb:=bA wb (.cells #[.bool J3,.slice ao3 n3 Y3,.bool K3,.slice ap3 m3 Z3] 32);have r7:Row (wb.alloc (.cells #[.bool J3,.slice ao3 n3 Y3,.bool K3,.slice ap3 m3 Z3] 32)) wb.heap.size 32 [.bool J3,.slice ao3 n3 Y3,.bool K3,.slice ap3 m3 Z3]:=heap_alloc_new _ _;obtain⟨g7,hg⟩:∃g,g=wb.heap.size:=⟨_,rfl⟩;have hgl:wb.heap.size<=g7:=oM
 rw[<-hg]at r7|-;clear hg;have HbX:=hii hb;have hV:=hV.mono hb;generalize wb.alloc (.cells #[.bool J3,.slice ao3 n3 Y3,.bool K3,.slice ap3 m3 Z3] 32)=wD at*;have hW9:=hW;obtain⟨aR,cR,aS,cS,J5,ao5,n5,Y5,K5,ap5,m5,Z5,J6,ao6,n6,Y6,K6,ap6,m6,Z6,aC,cC,rW,-,-,-,-,uC⟩:=hW9;rw[hc.o]at rW;have d0:=(rp.below HbX.o).cell (k:=0) sM;simp only[List.getElem_cons_zero]at d0;obtain⟨-,-,-,-,-,-,-,-,-,-,k10⟩:=(rW.below HbX.o).n11;go_wp2_with fail;clear d0 k10 hb;go_loopw [32] (λs wr=>∃i:Nat,∃J3 ao3 n3 Y3 K3 ap3 m3 Z3,i<=m/\s=.int .i64 i/\Row wr g7 32 [.bool J3,.slice ao3 n3 Y3,.bool K3,.slice ap3 m3 Z3]/\zad wr (qA J3 ao3 n3 Y3 K3 ap3 m3 Z3) (mxS f cap sh i)/\Hid (BH wb wr)) (λs _=>m-(intOf s).toNat)
 case atStart=>exact⟨0,_,_,_,_,_,_,_,_,Nat.zero_le _,rfl,r7,hV,HbX⟩
 case round=>
  clear r7 hV HbX;obtain⟨i,J3,ao3,n3,Y3,K3,ap3,m3,Z3,hi,rfl,r7,hV,HbX⟩:=hrel
  by_cases hlt:i<m
  ·obtain⟨c,hcx⟩:∃c,cap[i]?=some c:=⟨cap[i]'(by rw[hc.o];exact hlt),gE _⟩;have hcd:cap.getD i 0=c:=by rw[List.getD_eq_getElem?_getD,hcx];rfl
   obtain⟨hj1,hj2,hj3⟩:=HOf.o i (by rw[hc.o];exact hlt);rw[hcd]at hj2 hj3;have Hj1:=hii hj1;have Hj2:=hii hj2;have Hj3:=hii hj3;have Hcn:Hid (c.num≠0):=hii (λe=>by have h:=hpc.o c (List.mem_of_getElem? hcx);rw[Rat.num_eq_zero.1 e]at h;exact Rat.lt_irrefl h);have Hmx:Hid (mxS f cap sh (i+1)=if mxS f cap sh i<tS f sh i / c then tS f sh i / c else mxS f cap sh i):=hii (by rw[<-hcd];rfl);obtain⟨bC,offC,J4,ao4,n4,Y4,K4,ap4,m4,Z4,eC,z4,hvc⟩:=(uC.mono HbX.o) i (some c) (by rw[List.getElem?_map,hcx];rfl);have hvc:zad wr (qA J4 ao4 n4 Y4 K4 ap4 m4 Z4) c:=hvc;have hWk:=hW.mono HbX.o;have uLk:=uL.mono zag HbX.o;have hEk:=hE.mono HbX.o;have rpk:=rp.below HbX.o;have him:(i:Int)<(m:Int):=oM;subst eC;clear hcx hcd hj1 hj2 hj3;obtain⟨f0,f1,f2,f3,_,_,_,_⟩:=z4;have hbr:=Below.refl wr.heap.size wr;go_upto_region 10 with fail;clear f0 f1 f2 f3;have hbw9:=hbr;obtain⟨we,g9,hw9,hg9,hb,r9⟩:=bxr wr [.bool J4,.slice ao4 n4 Y4,.bool K4,.slice ap4 m4 Z4] 32;rw[<-hw9,<-hg9];have Hg9:Hid (wr.heap.size<=g9):=hii oM;clear hw9 hg9;have hvc:=hvc.mono hb;have hWk:=hWk.mono hb;have hEk:=hEk.mono hb;have rpk:=rpk.below hb;have r7:=r7.below hb;have hV:=hV.mono hb;have uLk:=uLk.mono zag hb;have hbr:=bu hbr hb;clear hb hbw9;obtain⟨wi,rfl⟩:=exi we;go_wp2_with fail;go_fit (zdT wi hEk);rintro e wj⟨⟨g10,rfl,hg10,hS⟩,hbj⟩;have hS:zcq wj g10 0 (tS f (sh.take 0) i):=by simpa [tS,zbc]using hS
   have HG:=hii (zia.of hEk hg10 hbj);go_wp2_with fail;go_loopw [40] (λs wr=>∃j:Nat,j<=N/\s=.int .i64 j/\zcq wr g10 0 (tS f (sh.take j) i)/\Hid (BH wi wr)) (λs _=>N-(intOf s).toNat)
   case atStart=>exact⟨0,Nat.zero_le _,rfl,hS,hii hbj⟩
   case round=>
    clear hS hbj HG;obtain⟨j,hj,rfl,hS,Hbj⟩:=hrel
    by_cases hlj:j<N
    ·obtain⟨⟨⟨r,s⟩,x⟩,hx⟩:∃x,sh[j]?=some x:=⟨sh[j]'(by rw[HNs.o];exact hlj),gE _⟩;have hxL:L[j]?=some ((r,s),some x):=by rw[Hsh.o];unfold shQ;rw[List.getElem?_map,hx];rfl
     have hin:((r,s),some x)∈L:=List.mem_of_getElem? hxL;have hmiss:zaX R S ((r,s),some x)=false:=List.any_eq_false.1 Hb9.o _ hin |> λh=>by simpa using h
     have hmm:r∈R/\s∈S:=by
      unfold zaX at hmiss;simp only[Bool.or_eq_false_iff,Bool.not_eq_false',List.any_eq_true,decide_eq_true_eq]at hmiss;obtain⟨⟨a,ha,rfl⟩,⟨b,hb,rfl⟩⟩:=hmiss;exact⟨ha,hb⟩
     have hr16:=h16.o.1 r hmm.1;have hs16:=h16.o.2 s hmm.2;obtain⟨HMu,HAd⟩:=Hj1.o j _ hx;have HMu:=hii HMu;have HAd:=hii HAd;have HTS:Hid (tS f (sh.take (j+1)) i=tS f (sh.take j) i+x*wt f (r,s) i):=hii (zi4 hx);obtain⟨b1,off1,J1,ao1,n1,Y1,K1,ap1,m1,Z1,ea,hv,h0,h1,h2,h3,h4,h5⟩:=(uLk.mono zag Hbj.o).six hxL;have hv:zad wr (qA J1 ao1 n1 Y1 K1 ap1 m1 Z1) x:=hv;have hjN:(j:Int)<(N:Int):=oM;have HG:=hii (zia.of hEk hg10 Hbj.o);obtain⟨t,ht⟩:∃t,wt f (r,s) i=t:=⟨_,rfl⟩;have Ht:=hii ht;rw[ht]at HMu HAd HTS;obtain⟨acc,hacc⟩:∃t,tS f (sh.take j) i=t:=⟨_,rfl⟩;rw[hacc]at HAd HTS hS;subst ea;clear hx hxL hin hmiss hmm ht hacc;go_upto_region 14 with fail;clear h0 h1 h2 h3 h4 h5;have hb:=bA wr (.cells #[.int .u16 (r:Nat),.int .u16 (s:Nat),.bool J1,.slice ao1 n1 Y1,.bool K1,.slice ap1 m1 Z1] 59);have r12:Row (wr.alloc (.cells #[.int .u16 (r:Nat),.int .u16 (s:Nat),.bool J1,.slice ao1 n1 Y1,.bool K1,.slice ap1 m1 Z1] 59)) wr.heap.size 59 [.int .u16 (r:Nat),.int .u16 (s:Nat),.bool J1,.slice ao1 n1 Y1,.bool K1,.slice ap1 m1 Z1]:=heap_alloc_new _ _;have hg12:wr.heap.size≠g10:=by have:=hS.lt;omega
     have hgp10:¬gp=g10:=by have:=rpk.lt;omega
     obtain⟨g12,hgg⟩:∃g,g=wr.heap.size:=⟨_,rfl⟩;rw[<-hgg]at r12 hg12|-;clear hgg;generalize wr.alloc (.cells #[.int .u16 (r:Nat),.int .u16 (s:Nat),.bool J1,.slice ao1 n1 Y1,.bool K1,.slice ap1 m1 Z1] 59)=wc at*;have hv:=hv.mono hb;have hS:=hS.mono hb;have HG:=hii (HG.o.mono hb);have Hbj:=hii (Below.step Hbj.o hb nl);have hWc:=hWk.mono Hbj.o;have rpc:=rpk.below Hbj.o;clear hb;have Hn:Hid (NoU (λb=>b=g10) wc):=hii hS.noU;have SS0:=hii hS;clear hS;refine zau (srK (G:=(λb=>b=g10))) (wx:=wc) [vf (pT g10 0),vf (pT g12 2),vf (.agg #[.bool J1,.slice ao1 n1 Y1,.bool K1,.slice ap1 m1 Z1]),vf (pT g 0),vf (pT g12 0),vf (.int .u16 (r:Nat)),vf (pT g12 1),vf (.int .u16 (s:Nat)),vf (.int .i64 i),(RU (λb=>b=g10) t),(λ_ _=>True)] [some 44,some 45,some 46,some 47,some 48,some 49,some 50,some 51,some 52,some 53,some 54] [44,45,46,47,48,49,50,51,52,53,54] [10] [[0],[0,1],[0],[0,1],[0,1],[0,1],[0,1],[0,1],[0,1],[0],[0]] [none,none,none,none,none,none,none,none,none,none,none] (λp T W=>match p with|0=>BH wc W|_+1=>zcq W g10 0 (acc+x*t)) (λT=>br.drew) (λp T W W' h hb=>match p,h with|0,h=>bu h hb|_+1,h=>h.mono hb) (λp T T' W hT h=>match p,hT,h with|0,_,h=>h|_+1,_,h=>h) (zah.refl _) ⟨zab _ _,zab _ _,zab _ _,zab _ _,zab _ _,zab _ _,zab _ _,zab _ _,zab _ _,RU.stay,(λ_ _ _ h _=>h),trivial⟩ ⟨?s0,?s1,?s2,?s3,?s4,?s5,?s6,?s7,?s8,?s9,?s10,trivial⟩ ?he
     case' s0|s1|s2|s3|s4|s5|s6|s7|s8|s9|s10=>
      rintro T W p hb hp hS hA K hK
     case' s0|s1|s4|s6|s8=>
      clear hS;simp only[sA]at hK|-
     case' s2=>
      clear hS;have e1:T 45=_:=hA.1 rfl;obtain⟨h0,h1,h2,h3,h4,h5⟩:=(r12.mono hb hg12).n6;simp only[sA,e1]at hK|-
     case' s3=>
      clear hS;have d0:=(rpc.mono hb hgp10).cell (k:=0) sM;simp only[List.getElem_cons_zero]at d0;simp only[sA]at hK|-
     case' s5=>
      clear hS;have e4:T 48=_:=hA.1 rfl;obtain⟨h0,h1,h2,h3,h4,h5⟩:=(r12.mono hb hg12).n6;simp only[sA,e4]at hK|-
     case' s7=>
      clear hS;have e6:T 50=_:=hA.1 rfl;obtain⟨h0,h1,h2,h3,h4,h5⟩:=(r12.mono hb hg12).n6;simp only[sA,e6]at hK|-
     case s0|s1|s2|s3|s4|s5|s6|s7|s8=>
      exact cE
     case s9=>
      obtain rfl:p=0:=by simpa using hp
      have hS:BH wc W:=hS;have e3:T 47=_:=hA.1 rfl;have e5:T 49=_:=hA.2.1 rfl;have e7:T 51=_:=hA.2.2.1 rfl;have e8:T 52=_:=hA.2.2.2.1 rfl;simp only[sA,e3,e5,e7,e8]at hK|-;have HK:=hii hK;clear hK hA;refine wO rfl ?_;go_simp;go_fit (zdG g R S f cap r s i W hr16 hs16 oM (hWc.mono hS) (HG.o.mono hS).env);rintro e w1⟨hz,hb1⟩;rw[Ht.o]at hz;obtain⟨J7,ao7,n7,Y7,K7,ap7,m7,Z7,rfl,hV7⟩:=hz.rat;have hn1:NoU (λb=>b=g10) w1:=(SS0.o.mono (bu hS hb1)).noU
      try dsimp only
      exact HK.o _ _ ⟨λ_=>hb1,λh=>absurd h (zas dM dM)⟩ (hV7.ru hn1)
     case s10=>
      obtain rfl:p=0:=by simpa using hp
      have hS:BH wc W:=hS;have e0:T 44=_:=hA.1 rfl;have e2:T 46=_:=hA.2.1 rfl;have r9:(_:FW) W (T 53):=hA.2.2.1 rfl;have r9:RU (λb=>b=g10) t W _:=r9;obtain⟨J8,ao8,n8,Y8,K8,ap8,m8,Z8,e9⟩:=r9.rat.parts;rw[e9]at r9;simp only[sA,e0,e2,e9]at hK|-;have HK:=hii hK;clear hK hA;refine wO rfl ?_;go_simp;go_fit (zhl g10 acc x t _ _ W (SS0.o.mono hS) (hv.mono hS) r9.rat HMu HAd (HG.o.mono hS));rintro e w1⟨rfl,hs1,hk1⟩
      try dsimp only
      exact HK.o _ _ ⟨λh=>absurd rfl h,λ_=>⟨hs1,hk1⟩⟩ (trivial)
     case he=>
      rintro T W hb hS hA;have hS:zcq W g10 0 (acc+x*t):=hS;simp only[sA];clear hA;have Hbj2:=hii (Hbj.o.trans (hb.below (λb e=>by rw[e];exact hg10) Hbj.o.size));rw[<-HTS.o]at hS;clear hb;go_wp2;go_roundw
      case rel=>exact⟨j+1,oM,gM,hS,Hbj2⟩
      case measure=>exact mM
    ·have hjN:j=N:=oM;rw[hjN,List.take_of_length_le (by rw[HNs.o];exact nl)]at hS;have hjn:¬(j:Int)<(N:Int):=oM;obtain⟨acc,hacc⟩:∃t,tS f sh i=t:=⟨_,rfl⟩;rw[hacc]at hS Hj2 Hj3 Hmx;have hEr:=hEk.mono Hbj.o;have r9k:=r9.below Hbj.o;have hvk:=hvc.mono Hbj.o;have r7k:=r7.below Hbj.o;have hVk:=hV.mono Hbj.o;obtain⟨J1,ao1,n1,Y1,K1,ap1,m1,Z1,rS,hVS⟩:=hS;have hVS:=hVS rfl;obtain⟨k0,k1,k2,k3,k4⟩:=rS.n5;clear hacc hjN hlj;go_upto_region 18 with fail;clear k0 k1 k2 k3 k4 hjn;obtain⟨wc,rfl⟩:=exi wr;refine zan (wx:=wc) (λ_=>False) [(λ_ X _=>X 0=pT g10 0),(λ_ X _=>X 1=pT g10 0),(λ_ X _=>X 2=pT g10 0),(λ_ X _=>X 3=.agg #[.bool J1,.slice ao1 n1 Y1,.bool K1,.slice ap1 m1 Z1]),(λ_ X _=>X 4=.agg #[.bool J4,.slice ao4 n4 Y4,.bool K4,.slice ap4 m4 Z4]),(λG X W=>((λ_ W v=>∃a,v=.tuple #[a,.int .i64 0]/\zad W a (acc / c)):FV) G W (X 5)),(λG X W=>((λ_ W v=>∃a,v=.tuple #[a,.int .i64 0]/\zad W a (acc / c)):FV) G W (X 6)),(λG X W=>((FQ (acc / c)):FV) G W (X 7)),(λ_ X _=>X 8=.int .i64 0),(λ_ _ _=>True),(λ_ _ _=>True),(λ_ X _=>X 11=.int .i64 0)] [some 67,some 68,some 69,some 70,some 71,some 72,some 66,some 73,some 74,some 13,none,some 14] [none,none,none,none,none,none,none,none,none,some ⟨10,7,32,[bF_,nS_,bF_,nS_]⟩,none,none] [67,68,69,70,71,72,66,73,74,13,14] ⟨(by intro u hu k z e;subst e;simp at hu),trivial⟩ (λb h=>h) br ⟨zaa _ _ _,zaa _ _ _,zaa _ _ _,zaa _ _ _,zaa _ _ _,(zaq (F:=λ_ W v=>∃a,v=.tuple #[a,.int .i64 0]/\zad W a (acc / c)) λG G' W W' v ⟨a,e,h⟩ hk hn hG=>⟨a,e,h.kept hk hn⟩),(zaq (F:=λ_ W v=>∃a,v=.tuple #[a,.int .i64 0]/\zad W a (acc / c)) λG G' W W' v ⟨a,e,h⟩ hk hn hG=>⟨a,e,h.kept hk hn⟩),zaQ _,zaa _ _ _,zaj _,zaj _,zaa _ _ _,trivial⟩ ⟨⟨λ_ _ _=>trivial,λ_ _ _=>trivial⟩,trivial⟩ ⟨tX,tX,tX,?s3,?s4,?s5,?s6,?s7,?s8,?s9,?s10,tX,trivial⟩ ⟨?b9,trivial⟩ ?he
     case' s3|s4|s5|s6|s7|s8=>
      rintro-G T W hb hHG hGW hGo hNG hA K hK;simp only[yA,yB,Region.binds]at hA;simp only[sA,hA]at hK|-
     case' s3|s4|s5=>
      have HK:=hii hK;clear hK hA
     case' s3=>
      have h9:=rS.below hb;obtain⟨k0,k1,k2,k3,k4⟩:=h9.n5
     case' s4=>
      obtain⟨e0,e1,e2,e3⟩:=(r9k.below hb).n4
     case s3|s4=>
      exact cK
     case s5=>
      refine wO rfl ?_;go_simp;go_fit (zlH _ _ acc c 0 W (hVS.mono hb) (hvk.mono hb) Hcn (hii (KQ.ok Hj2.o)) (hEr.mono hb));rintro e w1⟨hz,hb1⟩;obtain⟨J7,ao7,n7,Y7,K7,ap7,m7,Z7,rfl,hV7⟩:=hz.got.rat
      try dsimp only
      exact HK.o _ _ (hb1) λX hX _=>by
       show((λ_ W v=>∃a,v=.tuple #[a,.int .i64 0]/\zad W a (acc / c)):FV) G _ (X 5)
       exact dQ
     case s6=>
      have r5:((λ_ W v=>∃a,v=.tuple #[a,.int .i64 0]/\zad W a (acc / c)):FV) G W (T 72):=hA.1;obtain⟨a6,e5,h6⟩:=r5;simp only[e5]at hK|-;have HK:=hii hK;clear hK hA;refine wO rfl ?_;go_simp;exact HK.o _ _ br λX hX _=>by
       show((λ_ W v=>∃a,v=.tuple #[a,.int .i64 0]/\zad W a (acc / c)):FV) G _ (X 6)
       exact dL
     case s7=>
      have r6:((λ_ W v=>∃a,v=.tuple #[a,.int .i64 0]/\zad W a (acc / c)):FV) G W (T 66):=hA.1;obtain⟨a6,e6,h6⟩:=r6;simp only[e6]at hK|-;have HK:=hii hK;clear hK hA;refine wO rfl ?_;go_simp;exact HK.o _ _ br λX hX _=>by
       show((FQ (acc / c)):FV) G _ (X 7)
       exact eM
     case s8=>
      have r6:((λ_ W v=>∃a,v=.tuple #[a,.int .i64 0]/\zad W a (acc / c)):FV) G W (T 66):=hA.1;obtain⟨a6,e6,h6⟩:=r6;simp only[e6]at hK|-;exact dB
     case s9=>exact λh=>absurd h dM
     case s10=>exact λh=>absurd h dM
     case b9=>
      refine⟨?_,?_⟩
      ·exact cG
      ·rintro o ho G T W nb hA hp hrow K hK;obtain rfl:=Option.some.inj ho;have ep:T 13=.pointer (sD nb 0):=hp;have r7:((FQ (acc / c)):FV) G W (T 73):=hA.2.1;have r7:zad W _ (acc / c):=r7;exact d9
     case he=>
      rintro GG N T W hb hHG hGW hGo hbox hNG hne hA;have fv:((FQ (acc / c)):FV) GG W (T 73):=hA.at 7 dM;have f11:T 14=.int .i64 0:=hA.at 11 dM;obtain⟨ep,_,hge,vs,hsto,hrow⟩:=hbox 9 _ rfl;have ep:T 13=.pointer (some ⟨N 9,0,none⟩):=ep;have fv:zad W _ (acc / c):=fv;obtain⟨J5,ao5,n5,Y5,K5,ap5,m5,Z5,e5⟩:=fv.parts;obtain rfl:=hsto.four e5;rw[e5]at fv;simp only[sA,ep,f11];obtain⟨g13,hg⟩:∃g,g=N 9:=⟨_,rfl⟩;rw[<-hg]at hrow hge|-;have Hg13:=hii hge;clear hA hbox hNG hne hHG hGW hGo ep f11 hsto hge e5 hg;have r13:Row W g13 32 [.bool J5,.slice ao5 n5 Y5,.bool K5,.slice ap5 m5 Z5]:=hrow;have hbr2:=hii (Below.step (hbr.trans (Hbj.o.mono hbr.size)) hb (Nat.le_trans nl nl));have r7k:=r7k.below hb;have hVk:=hVk.mono hb;have hEr:=hEr.mono hb;have hg713:g13≠g7:=by have:=Hg13.o;have:=(r7.below Hbj.o).lt;omega
      clear hb hrow r9k hvk rS hVS;obtain⟨wd,rfl⟩:=exi W;obtain⟨mx,hmx⟩:∃x,mxS f cap sh i=x:=⟨_,rfl⟩;rw[hmx]at hVk Hj3 Hmx;clear hmx;obtain⟨cc,hcc⟩:∃x,Rq.cmpQ (acc / c) mx=x:=⟨_,rfl⟩;have Hcc:=hii hcc;clear hcc;obtain⟨e0,e1,e2,e3⟩:=r13.n4;obtain⟨k0,k1,k2,k3⟩:=r7k.n4;go_wp2_with fail;go_fit (zkB _ _ (acc / c) mx wd fv hVk Hj3 hEr);rw[Hcc.o];rintro e we⟨rfl,hb⟩;have r13:=r13.below hb;have r7k:=r7k.below hb;have hVk:=hVk.mono hb;have fv:=fv.mono hb;have HbX2:=hii (HbX.o.trans ((Below.step hbr2.o hb (Nat.le_trans nl nl)).mono HbX.o.size));clear hb e0 e1 e2 e3 k0 k1 k2 k3 hEr;have hgt:=zfn (acc / c) mx;rw[Hcc.o]at hgt
      by_cases hgx:mx<acc / c
      ·have hd:decide (0<cc)=true:=by rw[hgt];exact decide_eq_true hgx
       rw[if_pos hgx]at Hmx;have hd0:(0:Int)<cc:=of_decide_eq_true hd;obtain⟨e0,e1,e2,e3⟩:=r13.n4;obtain⟨k0,k1,k2,k3⟩:=r7k.n4;have q0:=r7k.free 0;have q1:=r7k.free 1;have q2:=r7k.free 2;have q3:=r7k.free 3;have HP4:=hii (zfy r7k noI4' (.bool J5) (.slice ao5 n5 Y5) (.bool K5) (.slice ap5 m5 Z5) fv);have HbX3:=hii (HbX2.o.trans (HP4.o.2.1.below (λb e=>by rw[e];exact hgl) HbX2.o.size));clear r7k hVk fv hgt hd;go_wp2;go_roundw
       case rel=>exact⟨i+1,_,_,_,_,_,_,_,_,oM,gM,HP4.o.1,by rw[Hmx.o];exact HP4.o.2.2,HbX3⟩
       case measure=>exact mM
      ·have hd:decide (0<cc)=false:=by rw[hgt];exact decide_eq_false hgx
       rw[if_neg hgx]at Hmx;have hd0:¬(0:Int)<cc:=of_decide_eq_false hd;clear hgt hd;go_wp2;go_roundw
       case rel=>exact⟨i+1,_,_,_,_,_,_,_,_,oM,gM,r7k,by rw[Hmx.o];exact hVk,HbX2⟩
       case measure=>exact mM
  ·have him:i=m:=oM;rw[him]at hV;have hin:¬(i:Int)<(m:Int):=oM;have r4:=r4.below HbX.o;obtain⟨p0,p1,p2,p3⟩:=r4.n4;obtain⟨k0,k1,k2,k3⟩:=r7.n4;have q0:=r4.free 0;have q1:=r4.free 1;have q2:=r4.free 2;have q3:=r4.free 3;have HP4:=hii (zfy r4 zhK (.bool J3) (.slice ao3 n3 Y3) (.bool K3) (.slice ap3 m3 Z3) hV);have Hbw:=hii (hbw.trans (HbX.o.mono hbw.size));clear r7 r4 hV hbw him hlt hi;go_wp2;obtain⟨R1,R2,R3⟩:=HP4.o;obtain⟨e0,e1,e2,e3⟩:=Row.n4 R1;refine bodyPost_ret (v:=.tuple #[.agg #[.bool J3,.slice ao3 n3 Y3,.bool K3,.slice ap3 m3 Z3],.int .i64 0]) (by simp[results,Tryz.results57,go_sem,e0,e1,e2,e3]) rfl ⟨.inr (.inr ⟨Hb9.o,HE1.o,sh,Hsh.o,by rw[hc.o];exact zb3.mk R3⟩),?_⟩;exact eF
theorem ifz{W:Wo}{a b c d:Int}{z:Bool}(h:((a==b) && (c==d))=z):(if a=b then if c=d then Result.ok (Next.value (Value.bool true)) W else Result.ok (Next.value (Value.bool false)) W else Result.ok (Next.value (Value.bool false)) W)=Result.ok (Next.value (Value.bool z)) W:=by
 rw[<-h]
 by_cases h1:a=b<;>by_cases h2:c=d<;>simp[h1,h2]
def zpB(l:List (Nat×Nat))(sh:List ((Nat×Nat)×Rat)):Prop:=∃at_:Nat->Nat,(∀(j:Nat)(s:(Nat×Nat)×Rat),sh[j]?=some s->zeC (λp=>decide (p=s.1)) l=(at_ j:Int)/\0<s.2)/\∀j,j+1<sh.length->at_ j<at_ (j+1)
def ziC(at_:Nat->Nat)(j:Nat):Int:=if j=0 then -1 else(at_ (j-1):Int)
def pS(f:Rat)(Qs:List Rat)(q:Nat×Nat)(j:Nat):Rat:=zbc ((List.range j).map λi=>Qs.getD i 0*wt f q i)
theorem zmF(f:Rat)(Qs:List Rat)(q:Nat×Nat)(j:Nat):pS f Qs q (j+1)=pS f Qs q j+Qs.getD j 0*wt f q j:=by
 unfold pS;rw[List.range_succ,List.map_append];exact zbf _ _
structure zpA(l:List (Nat×Nat))(f:Rat)(cap Qs:List Rat)(m:Nat)(ld:Rat):Prop where
 lQ:Qs.length=m
 lc:cap.length=m
 pos:∀x∈Qs,0<=x
 one:ziS 0 Qs cap (some 1)
 step:∀q∈l,∀j,j<m->zeN (Qs.getD j 0) (wt f q j)/\zcI (pS f Qs q j) (Qs.getD j 0*wt f q j)
 ge:∀q∈l,ld<=pS f Qs q m/\CrS (pS f Qs q m) ld
theorem zgt(l:List (Nat×Nat))(q:Nat×Nat)(aa:OA)(ca:Nat)(w:Wo)(hl:l.length<=1000000)(ua:EU 2 ziO w aa l) :
  CP 124 #[.slice aa l.length ca,.agg #[.int .u16 (q.1:Nat),.int .u16 (q.2:Nat)]] w λe w'=>e=.returned (.int .i64 (zeC (λy=>decide (y=q)) l))/\BH w w':=by
 have hbw:=Below.refl w.heap.size w;go_enter func124,ntmps124;go_upto_region 1 with fail;obtain⟨w1,g3,hw9,hg9,hb,r3⟩:=bxr w [.int .u16 (q.1:Nat),.int .u16 (q.2:Nat)] 115;rw[<-hw9,<-hg9];have Hg3:Hid (w.heap.size<=g3):=hii (by have:=hbw.size;omega);clear hw9 hg9;have ua:=ua.mono zbw hb;have hbw:=bu hbw hb;clear hb;go_wp2_with fail;go_loopw [8] (λs wr=>∃k:Nat,k<=l.length/\s=.int .i64 k/\Hid (∀y∈l.take k,decide (y=q)=false)/\BH w1 wr) (λs _=>l.length-(intOf s).toNat)
 case atStart=>exact⟨0,Nat.zero_le _,rfl,hii sM,br⟩
 case round=>
  obtain⟨k,hk,rfl,HN,hbr⟩:=hrel
  by_cases hlt:k<l.length
  ·obtain⟨x,hx⟩:∃x,l[k]?=some x:=⟨l[k],gE hlt⟩;obtain⟨b1,off1,c,ea,hck,hcs,hcq⟩:=(ua.mono zbw hbr) k x hx;have hc0:=hcs 0 (.int .u16 (x.1:Nat)) (by rw[hcq];rfl);have hc1:=hcs 1 (.int .u16 (x.2:Nat)) (by rw[hcq];rfl);rw[Nat.add_zero]at hc0;rw[<-Nat.add_assoc]at hc1;have Hx:=hii hx;have r3:=r3.below hbr;subst ea;clear hx hck hcs hcq ua;have hkl:(k:Int)<(l.length:Int):=oM;obtain⟨z,hz⟩:∃z,(((q.1:Int)==(x.1:Int)) && ((q.2:Int)==(x.2:Int)))=z:=⟨_,rfl⟩;have Hzz:=hii hz;have Hz:Hid (z=decide (x=q)):=hii (by
    rw[<-hz,Bool.eq_iff_iff,decide_eq_true_iff,Bool.and_eq_true,beq_iff_eq,beq_iff_eq,Prod.ext_iff]
    constructor
    ·rintro⟨h1,h2⟩;exact⟨oM,oM⟩
    ·rintro⟨h1,h2⟩;exact⟨oM,oM⟩)
   clear hz;go_upto_region 4 with fail;refine zae (wx:=wr) [vf (.agg #[.int .u16 (q.1:Nat),.int .u16 (q.2:Nat)]),vf (.slice (sD b1 off1) l.length ca),vf (.int .i64 k),vf (.pointer (some ⟨b1,off1+k*2,none⟩)),vf (.agg #[.int .u16 (x.1:Nat),.int .u16 (x.2:Nat)]),vf (.bool z)] [11,12,13,14,15,16] br zS ⟨?s0,tV,tV,tV,?s4,?s5,trivial⟩ ?he
   case' s0|s4|s5=>
    rintro T W hb hA K hK;simp only[yA,Region.binds]at hA;simp only[sA,hA]at hK|-;have HK:=hii hK;clear hK hA
   case' s0=>
    have d0:=(r3.below hb).cell (k:=0) sM;have d1:=(r3.below hb).cell (k:=1) sM;simp only[List.getElem_cons_zero,List.getElem_cons_succ]at d0 d1
   case' s4=>
    have h0:=(hb.cell (zaf hc0)).trans hc0;have h1:=(hb.cell (zaf hc1)).trans hc1
   case s0|s4=>
    exact cH
   case s5=>
    refine wO rfl ?_;go_simp;have hb1:=Below.refl W.heap.size W;rw[ifz Hzz.o]
    try dsimp only
    exact d6
   case he=>
    rintro T W hb hA;have f5:T 16=.bool z:=hA.at 5 dM;simp only[sA,f5];have hbr:=bu hbr hb;clear hA f5 Hzz
    cases z with
    |true=>
     have hxq:x=q:=of_decide_eq_true Hz.o.symm;have Hxq:=hii (decide_eq_true hxq);clear hxq;go_wp2;go_ret;exact⟨by rw[zcp Hx.o Hxq.o HN.o];rfl,bu hbw hbr⟩
    |false=>
     go_wp2;go_roundw
     case rel=>
      refine⟨k+1,oM,gM,hii λy hy=>?_,hbr⟩;rw[zaw Hx.o]at hy;rcases List.mem_append.1 hy with h|h
      ·exact HN.o y h
      ·simp at h;subst h;exact Hz.o.symm
     case measure=>exact mM
  ·obtain rfl:k=l.length:=oM;go_wp2;go_ret;exact⟨by rw[zbL (λx hx=>HN.o x (by rw[List.take_length];exact hx))];rfl,bu hbw hbr⟩
theorem zis(g:Nat)(R S:LN)(f:Rat)(cap:List Rat)(sh:List ((Nat×Nat)×Rat))(aL:OA)(cL:Nat)(w:Wo)(hR:R.length<=900)(hS:S.length<=1000)(hRS:R.length*S.length<=1000)(hsl:sh.length<=1000)(hO:Hid (zpB (prs R S) sh))(hW:zd4 w g R S f cap)(uL:EU 6 zaL w aL (shQ sh))(hE:Env w) :
  CP 72 #[pT g 0,.slice aL sh.length cL] w λe w'=>e=.returned (.bool true)/\BH w w':=by
 have hbw:=Below.refl w.heap.size w;obtain⟨l,hl⟩:∃l,prs R S=l:=⟨_,rfl⟩;have Hln:Hid (l.length<=1000):=hii (by rw[<-hl,zbX];exact hRS);have HPr:=zdy g R S f cap w hR hS hW;rw[hl]at HPr hO;obtain⟨at_,HA,HI⟩:=hO.o;have HA:=hii HA;have HI:=hii HI;obtain⟨N,hN⟩:∃N,sh.length=N:=⟨_,rfl⟩;have HN:=hii hN;rw[hN]at hsl|-;clear hl hN hRS hO;go_enter func72,ntmps72;go_wp2_with fail;(with_reducible refine HPr.mono ?_);rintro e w1⟨⟨v,rfl,hOl⟩,hb⟩;obtain⟨al,cl,rfl,-,uP⟩:=hOl.read;have hE:=hE.mono hb;have uL:=uL.mono zag hb;have hbw:=bu hbw hb;clear hb hOl HPr hW;go_wp2_with fail;go_loopw [6,14] (λv s wr=>∃j:Nat,j<=N/\s=.int .i64 j/\v=.int .i64 (ziC at_ j)/\BH w1 wr) (λ_ s _=>N-(intOf s).toNat)
 case atStart=>exact⟨0,Nat.zero_le _,rfl,rfl,br⟩
 case round=>
  obtain⟨j,hj,rfl,rfl,hbr⟩:=hrel
  by_cases hlj:j<N
  ·obtain⟨⟨⟨r,s⟩,x⟩,hx⟩:∃x,sh[j]?=some x:=⟨sh[j]'(by rw[HN.o];exact hlj),gE _⟩;obtain⟨Hat,hx0⟩:=HA.o j _ hx;have Hx0:=hii hx0;have hla:ziC at_ j<(at_ j:Int):=by
    unfold ziC
    split
    ·omega
    ·have:=HI.o (j-1) (by rw[HN.o];omega);rw[show j-1+1=j by omega]at this;omega
   have HLa:Hid (ziC at_ (j+1)=(at_ j:Int)):=hii (by unfold ziC;rw[if_neg oM,Nat.add_sub_cancel]);obtain⟨la,hla2⟩:∃a,ziC at_ j=a:=⟨_,rfl⟩;obtain⟨a,ha2⟩:∃a,at_ j=a:=⟨_,rfl⟩;rw[hla2,ha2]at hla;rw[ha2]at HLa Hat;rw[hla2];clear hla2 ha2;have hxL:(shQ sh)[j]?=some ((r,s),some x):=by unfold shQ;rw[List.getElem?_map,hx];rfl
   obtain⟨b1,off1,J1,ao1,n1,Y1,K1,ap1,m1,Z1,ea,hv,h0,h1,h2,h3,h4,h5⟩:=(uL.mono zag hbr).six hxL;have hv:zad wr (qA J1 ao1 n1 Y1 K1 ap1 m1 Z1) x:=hv;have HC0:=hii hv.cr01.1;have hEk:=hE.mono hbr;have hjN:(j:Int)<(N:Int):=oM;subst ea;clear hx hxL hx0;go_upto_region 6 with fail;clear h0 h1 h2 h3 h4 h5;have hb:=bA wr (.cells #[.int .u16 (r:Nat),.int .u16 (s:Nat),.bool J1,.slice ao1 n1 Y1,.bool K1,.slice ap1 m1 Z1] 59);have r8:Row (wr.alloc (.cells #[.int .u16 (r:Nat),.int .u16 (s:Nat),.bool J1,.slice ao1 n1 Y1,.bool K1,.slice ap1 m1 Z1] 59)) wr.heap.size 59 [.int .u16 (r:Nat),.int .u16 (s:Nat),.bool J1,.slice ao1 n1 Y1,.bool K1,.slice ap1 m1 Z1]:=heap_alloc_new _ _;obtain⟨g8,hg⟩:∃g,g=wr.heap.size:=⟨_,rfl⟩;rw[<-hg]at r8|-;clear hg;generalize wr.alloc (.cells #[.int .u16 (r:Nat),.int .u16 (s:Nat),.bool J1,.slice ao1 n1 Y1,.bool K1,.slice ap1 m1 Z1] 59)=wc at*;have hv:=hv.mono hb;have hEk:=hEk.mono hb;have hbr:=bu hbr hb;clear hb;have HIx:=hii (zgt l (r,s) al cl wc (by have:=Hln.o;omega) (uP.mono zbw hbr));rw[Hat]at HIx;obtain⟨k0,k1,-,-,-,-⟩:=r8.n6;clear Hat;go_wp2_with fail;(with_reducible refine HIx.o.mono ?_);rintro e wd⟨rfl,hb⟩;have hv:=hv.mono hb;have hEk:=hEk.mono hb;have r8:=r8.below hb;have hbr:=bu hbr hb;clear hb k0 k1 HIx;have hd:decide ((a:Int)<=la)=false:=decide_eq_false oM;go_upto_region 7 with fail;refine zae (wx:=wd) [vf (.int .i64 (a:Nat)),vf (.int .i64 la),vf bF_,vf bF_,vf (pT g8 2),vf (.agg #[.bool J1,.slice ao1 n1 Y1,.bool K1,.slice ap1 m1 Z1]),vf (.bool true),vf bF_,vf bF_,vf bF_,vf (pT g8 2),vf (.agg #[.bool J1,.slice ao1 n1 Y1,.bool K1,.slice ap1 m1 Z1]),(λW v=>zad W v 0),vf (.int .i64 1),vf bF_,vf bF_] [25,26,27,28,29,30,31,32,33,34,35,36,37,38,39,40] br ⟨sV _,sV _,sV _,sV _,sV _,sV _,sV _,sV _,sV _,sV _,sV _,sV _,(λ_ _ _ h hb=>h.mono hb),sV _,sV _,sV _,trivial⟩ ⟨tV,tV,tV,tV,tV,?s5,?s6,tV,tV,tV,tV,?s11,?s12,?s13,tV,tV,trivial⟩ ?he
   case' s5|s6|s11|s12|s13=>
    rintro T W hb hA K hK;simp only[yA,Region.binds]at hA;simp only[sA,hA]at hK|-
   case' s5|s6|s11|s12=>
    have HK:=hii hK;clear hK hA
   case s5|s11=>
    obtain⟨h0,h1,h2,h3,h4,h5⟩:=(r8.below hb).n6;exact cH
   case s6=>
    refine wO rfl ?_;go_simp;go_fit (zay _ x W (hv.mono hb) (hEk.mono hb));rintro e w1⟨rfl,hb1⟩
    try dsimp only
    exact d6
   case s12=>
    refine wO rfl ?_;go_simp;go_fit (zaK 0 dM dM W (hEk.mono hb));rintro e w1⟨hz,hb1⟩;obtain⟨J7,ao7,n7,Y7,K7,ap7,m7,Z7,rfl,hV7⟩:=hz.rat;have hV7:zad w1 (qA J7 ao7 n7 Y7 K7 ap7 m7 Z7) 0:=hV7
    try dsimp only
    exact dY
   case s13=>
    have r12:=hA.2.1;have HK:=hii hK;clear hK hA;have r12:zad W _ 0:=r12;obtain⟨J6,ao6,n6,Y6,K6,ap6,m6,Z6,e12⟩:=r12.parts;rw[e12]at r12;simp only[e12]at HK|-;refine wO rfl ?_;go_simp;go_fit (za3 _ _ x 0 W (hv.mono hb) r12 HC0 (hEk.mono hb));rw[zj8 Hx0.o];rintro e w1⟨rfl,hb1⟩
    try dsimp only
    exact d6
   case he=>
    rintro T W hb hA;have f15:T 40=bF_:=hA.at 15 dM;simp only[sA,f15];have hbr:=bu hbr hb;clear hA f15 hd;go_wp2;go_roundw
    case rel=>exact⟨j+1,oM,gM,by rw[HLa.o],hbr⟩
    case measure=>exact mM
  ·obtain rfl:j=N:=oM;go_wp2;go_ret;exact⟨rfl,bu hbw hbr⟩
theorem ziq(v:Vl)(x:Rat)(w:Wo)(hv:zad w v x)(hx:Hid (0<=x))(hE:Env w) :
  CP 125 #[v] w λe w'=>e=.returned bF_/\BH w w':=by
 have hbw:=Below.refl w.heap.size w;obtain⟨J1,ao1,n1,Y1,K1,ap1,m1,Z1,rfl⟩:=hv.parts;obtain⟨cc,hcc⟩:∃c,Rq.cmpQ x 0=c:=⟨_,rfl⟩;have Hcc:=hii hcc;have hd:decide (cc<0)=false:=decide_eq_false (by rw[<-hcc];have:=zd0 hx.o;omega);clear hcc;go_enter func125,ntmps125;go_upto_region 1 with fail;obtain⟨wa,g1,hw9,hg9,hb,r1⟩:=bxr w [.bool J1,.slice ao1 n1 Y1,.bool K1,.slice ap1 m1 Z1] 32;rw[<-hw9,<-hg9];have Hg1:Hid (w.heap.size<=g1):=hii (by have:=hbw.size;omega);clear hw9 hg9;have hv:=hv.mono hb;have hE:=hE.mono hb;have hbw:=bu hbw hb;clear hb;have HC0:=hii hv.cr01.1;refine zae (wx:=wa) [vf (.agg #[.bool J1,.slice ao1 n1 Y1,.bool K1,.slice ap1 m1 Z1]),vf (.bool true),vf bF_,vf bF_,vf (.agg #[.bool J1,.slice ao1 n1 Y1,.bool K1,.slice ap1 m1 Z1]),(λW v=>zad W v 0),vf (.int .i64 cc),vf bF_,vf bF_,vf bF_] [3,4,5,6,7,8,9,10,11,2] br ⟨sV _,sV _,sV _,sV _,sV _,(λ_ _ _ h hb=>h.mono hb),sV _,sV _,sV _,sV _,trivial⟩ ⟨?s0,?s1,tV,tV,?s4,?s5,?s6,tV,tV,tV,trivial⟩ ?he
 case' s0|s1|s4|s5|s6=>
  rintro T W hb hA K hK;simp only[yA,Region.binds]at hA;simp only[sA,hA]at hK|-
 case' s0|s1|s4|s5=>
  have HK:=hii hK;clear hK hA
 case s0|s4=>
  obtain⟨k0,k1,k2,k3⟩:=(r1.below hb).n4;exact cH
 case s1=>
  refine wO rfl ?_;go_simp;go_fit (zay _ x W (hv.mono hb) (hE.mono hb));rintro e w1⟨rfl,hb1⟩
  try dsimp only
  exact d6
 case s5=>
  refine wO rfl ?_;go_simp;go_fit (zaK 0 dM dM W (hE.mono hb));rintro e w1⟨hz,hb1⟩;obtain⟨J7,ao7,n7,Y7,K7,ap7,m7,Z7,rfl,hV7⟩:=hz.rat;have hV7:zad w1 (qA J7 ao7 n7 Y7 K7 ap7 m7 Z7) 0:=hV7
  try dsimp only
  exact dY
 case s6=>
  have r5:=hA.2.1;have HK:=hii hK;clear hK hA;have r5:zad W _ 0:=r5;obtain⟨J6,ao6,n6,Y6,K6,ap6,m6,Z6,e5⟩:=r5.parts;rw[e5]at r5;simp only[e5]at HK|-;refine wO rfl ?_;go_simp;go_fit (za3 _ _ x 0 W (hv.mono hb) r5 HC0 (hE.mono hb));rw[Hcc.o];rintro e w1⟨rfl,hb1⟩
  try dsimp only
  exact d6
 case he=>
  rintro T W hb hA;have f9:T 2=bF_:=hA.at 9 dM;simp only[sA,f9];have hbw:=bu hbw hb;clear hA f9;exact cP
theorem zjy(g:Nat)(R S:LN)(f:Rat)(cap Qs:List Rat)(m:Nat)(ld:Rat)(vl:Vl)(aQ:OA)(cQ:Nat)(w:Wo)(hR:R.length<=900)(hS:S.length<=1000)(hRS:R.length*S.length<=1000)(hm:m<=12)(h16:Hid (zaR R/\zaR S))(hP:Hid (zpA (prs R S) f cap Qs m ld))(hW:zd4 w g R S f cap)(hl:zad w vl ld)(uQ:UQ w aQ (Qs.map some))(hE:Env w) :
  CP 74 #[pT g 0,vl,.slice aQ m cQ] w λe w'=>e=.returned (.bool true)/\BH w w':=by
 have hbw:=Below.refl w.heap.size w;obtain⟨J1,ao1,n1,Y1,K1,ap1,m1,Z1,rfl⟩:=hl.parts;have HQl:Hid (Qs.length=m):=hii hP.o.lQ;have HCl:Hid (cap.length=m):=hii hP.o.lc;obtain⟨l,hll⟩:∃l,prs R S=l:=⟨_,rfl⟩;have HP16:Hid (∀q∈l,q.1<65536/\q.2<65536):=hii λq hq=>by
  rw[<-hll]at hq;exact⟨h16.o.1 _ (zbW hq).1,h16.o.2 _ (zbW hq).2⟩
 have hln:l.length<=1000:=by rw[<-hll,zbX];exact hRS
 have HPr:=hii (λw hW=>zdy g R S f cap w hR hS hW);rw[hll]at HPr hP;obtain⟨n,hn⟩:∃n,l.length=n:=⟨_,rfl⟩;have Hn:=hii hn;rw[hn]at hln;clear hll hn hRS;go_enter func74,ntmps74;go_upto_region 1 with fail;obtain⟨w1,g4,hw9,hg9,hb,r4⟩:=bxr w [.bool J1,.slice ao1 n1 Y1,.bool K1,.slice ap1 m1 Z1] 32;rw[<-hw9,<-hg9];have Hg4:Hid (w.heap.size<=g4):=hii (by have:=hbw.size;omega);clear hw9 hg9;have hW:=hW.mono hb;have hl:=hl.mono hb;have uQ:=uQ.mono hb;have hE:=hE.mono hb;have hbw:=bu hbw hb;clear hb;have eg:∀args w,(callFunc 125 args).run Tryz.prog w=.ok (.enter 125 args) w:=enters_of func125 (by kernel_rfl) rfl;have HK:=zbo 125 #[] (λ_=>false) eg (Qs.map some) aQ cQ w1 (by rw[List.length_map,HQl.o];omega) uQ hE (λo v W ho hv hEW hb=>by
  obtain⟨r,hr,rfl⟩:=List.mem_map.1 ho;exact ziq v r W hv (hii (hP.o.pos r hr)) hEW)
 rw[List.length_map,HQl.o,show((Qs.map (some:Rat->Qo)).any λ_=>false)=false from List.any_eq_false.2 λ_ _=>by simp]at HK;have hW9:=hW;obtain⟨aR,cR,aS,cS,J5,ao5,n5,Y5,K5,ap5,m5,Z5,J6,ao6,n6,Y6,K6,ap6,m6,Z6,aC,cC,rW,-,-,-,-,uC⟩:=hW9;rw[HCl.o]at rW;obtain⟨-,-,-,-,-,-,-,-,-,-,k10⟩:=rW.n11;go_wp2_with fail;(with_reducible refine HK.mono ?_);rintro e w2⟨rfl,hb⟩;have hW:=hW.mono hb;have hl:=hl.mono hb;have uQ:=uQ.mono hb;have uC:=uC.mono hb;have hE:=hE.mono hb;have r4:=r4.below hb;have rW:=rW.below hb;have hbw:=bu hbw hb;clear hb;clear HK k10 eg;have HD:=znx Qs cap (some 1) aQ aC cQ cC w2 (by rw[HQl.o];omega) (by rw[HQl.o,HCl.o]) uQ uC (hii hP.o.one) hE;rw[HQl.o,HCl.o]at HD;obtain⟨-,-,-,-,-,-,-,-,-,-,k10⟩:=rW.n11;go_wp2_with fail;(with_reducible refine HD.mono ?_);rintro e w3⟨hz,hb⟩;have hz:zb3 w3 1 e:=hz;obtain⟨J2,ao2,n2,Y2,K2,ap2,m2,Z2,rfl,hV1⟩:=hz.rat;have hW:=hW.mono hb;have hl:=hl.mono hb;have uQ:=uQ.mono hb;have hE:=hE.mono hb;have r4:=r4.below hb;have hbw:=bu hbw hb;clear hb;clear HD hz k10 uC rW;go_upto_region 4 with fail;obtain⟨w4,g7,hw9,hg9,hb,r7⟩:=bxr w3 [.bool J2,.slice ao2 n2 Y2,.bool K2,.slice ap2 m2 Z2] 32;rw[<-hw9,<-hg9];have Hg7:Hid (w.heap.size<=g7):=hii (by have:=hbw.size;omega);clear hw9 hg9;have hV1:=hV1.mono hb;have hW:=hW.mono hb;have hl:=hl.mono hb;have uQ:=uQ.mono hb;have hE:=hE.mono hb;have r4:=r4.below hb;have hbw:=bu hbw hb;clear hb;refine zae (wx:=w4) [vf (.int .i64 0),vf bF_,vf bF_,vf (.agg #[.bool J2,.slice ao2 n2 Y2,.bool K2,.slice ap2 m2 Z2]),(λW v=>zad W v 1),vf (.int .i64 0),vf bF_,vf bF_] [35,36,37,38,39,40,41,42] br ⟨sV _,sV _,sV _,sV _,(λ_ _ _ h hb=>h.mono hb),sV _,sV _,sV _,trivial⟩ ⟨tV,tV,tV,?s3,?s4,?s5,tV,tV,trivial⟩ ?he
 case' s3|s4|s5=>
  rintro T W hb hA K hK;simp only[yA,Region.binds]at hA;simp only[sA,hA]at hK|-
 case' s3|s4=>
  have HK:=hii hK;clear hK hA
 case s3=>
  obtain⟨k0,k1,k2,k3⟩:=(r7.below hb).n4;exact cH
 case s4=>
  refine wO rfl ?_;go_simp;go_fit (zaK 1 dM dM W (hE.mono hb));rintro e w1⟨hz,hb1⟩;obtain⟨J7,ao7,n7,Y7,K7,ap7,m7,Z7,rfl,hV7⟩:=hz.rat;have hV7:zad w1 (qA J7 ao7 n7 Y7 K7 ap7 m7 Z7) 1:=hV7
  try dsimp only
  exact dY
 case s5=>
  have r4:=hA.2.1;have HK:=hii hK;clear hK hA;have r4:zad W _ 1:=r4;obtain⟨J6,ao6,n6,Y6,K6,ap6,m6,Z6,e4⟩:=r4.parts;rw[e4]at r4;simp only[e4]at HK|-;refine wO rfl ?_;go_simp;go_fit (za3 _ _ 1 1 W (hV1.mono hb) r4 (hii hV1.cr01.2) (hE.mono hb));rw[show Rq.cmpQ 1 1=0 from rfl];rintro e w1⟨rfl,hb1⟩
  try dsimp only
  exact d6
 case he=>
  rintro T W hb hA;have f7:T 42=bF_:=hA.at 7 dM;simp only[sA,f7];have hW:=hW.mono hb;have hl:=hl.mono hb;have uQ:=uQ.mono hb;have hE:=hE.mono hb;have r4:=r4.below hb;have hbw:=bu hbw hb;clear hb;clear hA f7 r7 hV1;obtain⟨w5,rfl⟩:=exi W;go_wp2_with fail;go_fit (HPr.o w5 hW);rintro e w6⟨⟨v,rfl,hOl⟩,hb⟩;obtain⟨al,cl,rfl,-,uP⟩:=hOl.read;rw[Hn.o];have hW:=hW.mono hb;have hl:=hl.mono hb;have uQ:=uQ.mono hb;have hE:=hE.mono hb;have r4:=r4.below hb;have hbw:=bu hbw hb;clear hb;clear hOl HPr;go_wp2_with fail;go_loopw [46] (λs wr=>∃k:Nat,k<=n/\s=.int .i64 k/\Hid (BH w6 wr)) (λs _=>n-(intOf s).toNat)
  case atStart=>exact⟨0,Nat.zero_le _,rfl,hii br⟩
  case round=>
   obtain⟨k,hk,rfl,Hbk⟩:=hrel
   by_cases hlk:k<n
   ·obtain⟨⟨r,s⟩,hx⟩:∃x,l[k]?=some x:=⟨l[k]'(by rw[Hn.o];exact hlk),gE _⟩;have hin:=List.mem_of_getElem? hx;have hr16:=(HP16.o _ hin).1;have hs16:=(HP16.o _ hin).2;have HSt:=hii (hP.o.step _ hin);have HGe:=hii (hP.o.ge _ hin);obtain⟨b1,off1,c,ea,hck,hcs,hcq⟩:=(uP.mono zbw Hbk.o) k _ hx;have hc0:=hcs 0 (.int .u16 (r:Nat)) (by rw[hcq];rfl);have hc1:=hcs 1 (.int .u16 (s:Nat)) (by rw[hcq];rfl);rw[Nat.add_zero]at hc0;rw[<-Nat.add_assoc]at hc1;have hkn:(k:Int)<(n:Int):=oM;have hWk:=hW.mono Hbk.o;have hEk:=hE.mono Hbk.o;have uQk:=uQ.mono Hbk.o;have r4k:=r4.below Hbk.o;have hlk9:=hl.mono Hbk.o;subst ea;clear hx hin hcs hcq hck;have hbr:=Below.refl wr.heap.size wr;go_upto_region 9 with fail;have hb:=bA wr (.cells #[.int .u16 (r:Nat),.int .u16 (s:Nat)] 115);have r10:Row (wr.alloc (.cells #[.int .u16 (r:Nat),.int .u16 (s:Nat)] 115)) wr.heap.size 115 [.int .u16 (r:Nat),.int .u16 (s:Nat)]:=heap_alloc_new _ _;obtain⟨g10,hg⟩:∃g,g=wr.heap.size:=⟨_,rfl⟩;rw[<-hg]at r10|-;clear hg hc0 hc1;generalize wr.alloc (.cells #[.int .u16 (r:Nat),.int .u16 (s:Nat)] 115)=wi at*;have hWk:=hWk.mono hb;have hEk:=hEk.mono hb;have uQk:=uQk.mono hb;have r4k:=r4k.below hb;have hlk9:=hlk9.mono hb;have hbr:=bu hbr hb;clear hb;go_wp2_with fail;go_fit (zdT wi hEk);rintro e wj⟨⟨g11,rfl,hg11,hS9⟩,hbj⟩;have hS9:zcq wj g11 0 (pS f Qs (r,s) 0):=hS9;go_wp2_with fail;go_loopw [53] (λs9 wr=>∃j:Nat,j<=m/\s9=.int .i64 j/\zcq wr g11 0 (pS f Qs (r,s) j)/\Hid (BH wi wr)) (λs9 _=>m-(intOf s9).toNat)
    case atStart=>exact⟨0,Nat.zero_le _,rfl,hS9,hii hbj⟩
    case round=>
     clear hS9 hbj;obtain⟨j,hj,rfl,hS9,Hbj⟩:=hrel
     by_cases hlj:j<m
     ·obtain⟨x,hx⟩:∃x,Qs[j]?=some x:=⟨Qs[j]'(by rw[HQl.o];exact hlj),gE _⟩;have hgx:Qs.getD j 0=x:=by rw[List.getD_eq_getElem?_getD,hx];rfl
      obtain⟨HMu,HAd⟩:=HSt.o j hlj;have HTS:Hid (pS f Qs (r,s) (j+1)=pS f Qs (r,s) j+x*wt f (r,s) j):=hii (by rw[zmF,hgx]);rw[hgx]at HMu HAd;have HMu:=hii HMu;have HAd:=hii HAd;obtain⟨bQ,offQ,J3,ao3,n3,Y3,K3,ap3,m3,Z3,eQ,z4,hvx⟩:=(uQk.mono Hbj.o) j (some x) (by rw[List.getElem?_map,hx];rfl);have hvx:zad wr (qA J3 ao3 n3 Y3 K3 ap3 m3 Z3) x:=hvx;have hjm:(j:Int)<(m:Int):=oM;have HG:=hii (zia.of hEk hg11 Hbj.o);obtain⟨t,ht⟩:∃t,wt f (r,s) j=t:=⟨_,rfl⟩;have Ht:=hii ht;rw[ht]at HMu HAd HTS;obtain⟨acc,hacc⟩:∃t,pS f Qs (r,s) j=t:=⟨_,rfl⟩;rw[hacc]at HAd HTS hS9;subst eQ;clear hx hgx ht hacc;obtain⟨f0,f1,f2,f3,_,_,_,_⟩:=z4;go_upto_region 13 with fail;clear f0 f1 f2 f3;have hb:=bA wr (.cells #[.bool J3,.slice ao3 n3 Y3,.bool K3,.slice ap3 m3 Z3] 32);have r13:Row (wr.alloc (.cells #[.bool J3,.slice ao3 n3 Y3,.bool K3,.slice ap3 m3 Z3] 32)) wr.heap.size 32 [.bool J3,.slice ao3 n3 Y3,.bool K3,.slice ap3 m3 Z3]:=heap_alloc_new _ _;have hg13:wr.heap.size≠g11:=by have:=hS9.lt;omega
      have hg1011:¬g10=g11:=by have:=r10.lt;omega
      obtain⟨g13,hgg⟩:∃g,g=wr.heap.size:=⟨_,rfl⟩;rw[<-hgg]at r13 hg13|-;clear hgg;generalize wr.alloc (.cells #[.bool J3,.slice ao3 n3 Y3,.bool K3,.slice ap3 m3 Z3] 32)=wc at*;have hv:=hvx.mono hb;have SS0:=hii (hS9.mono hb);have HG:=hii (HG.o.mono hb);have Hbj:=hii (Below.step Hbj.o hb nl);have hWc:=hWk.mono Hbj.o;have r10c:=r10.below Hbj.o;clear hb hvx hS9;refine zau (srK (G:=(λb=>b=g11))) (wx:=wc) [vf (pT g11 0),vf (.agg #[.bool J3,.slice ao3 n3 Y3,.bool K3,.slice ap3 m3 Z3]),vf (pT g 0),vf (pT g10 0),vf (.int .u16 (r:Nat)),vf (pT g10 1),vf (.int .u16 (s:Nat)),vf (.int .i64 j),(RU (λb=>b=g11) t),(λ_ _=>True)] [some 58,some 59,some 60,some 61,some 62,some 63,some 64,some 65,some 66,some 67] [58,59,60,61,62,63,64,65,66,67] [9] [[0],[0],[0,1],[0,1],[0,1],[0,1],[0,1],[0,1],[0],[0]] [none,none,none,none,none,none,none,none,none,none] (λp T W=>match p with|0=>BH wc W|_+1=>zcq W g11 0 (acc+x*t)) (λT=>br.drew) (λp T W W' h hb=>match p,h with|0,h=>bu h hb|_+1,h=>h.mono hb) (λp T T' W hT h=>match p,hT,h with|0,_,h=>h|_+1,_,h=>h) (zah.refl _) ⟨zab _ _,zab _ _,zab _ _,zab _ _,zab _ _,zab _ _,zab _ _,zab _ _,RU.stay,(λ_ _ _ h _=>h),trivial⟩ ⟨?s0,?s1,?s2,?s3,?s4,?s5,?s6,?s7,?s8,?s9,trivial⟩ ?he
      case' s0|s1|s2|s3|s4|s5|s6|s7|s8|s9=>
       rintro T W p hb hp hS hA K hK
      case' s0|s2|s3|s5|s7=>
       clear hS;simp only[sA]at hK|-
      case' s1=>
       clear hS;obtain⟨k0,k1,k2,k3⟩:=(r13.mono hb hg13).n4;simp only[sA]at hK|-
      case' s4=>
       clear hS;have e3:T 61=_:=hA.1 rfl;have d0:=(r10c.mono hb hg1011).cell (k:=0) sM;have d1:=(r10c.mono hb hg1011).cell (k:=1) sM;simp only[List.getElem_cons_zero,List.getElem_cons_succ]at d0 d1;simp only[sA,e3]at hK|-
      case' s6=>
       clear hS;have e5:T 63=_:=hA.1 rfl;have d0:=(r10c.mono hb hg1011).cell (k:=0) sM;have d1:=(r10c.mono hb hg1011).cell (k:=1) sM;simp only[List.getElem_cons_zero,List.getElem_cons_succ]at d0 d1;simp only[sA,e5]at hK|-
      case s0|s1|s2|s3|s4|s5|s6|s7=>
       exact cE
      case s8=>
       obtain rfl:p=0:=by simpa using hp
       have hS:BH wc W:=hS;have e2:T 60=_:=hA.1 rfl;have e4:T 62=_:=hA.2.1 rfl;have e6:T 64=_:=hA.2.2.1 rfl;have e7:T 65=_:=hA.2.2.2.1 rfl;simp only[sA,e2,e4,e6,e7]at hK|-;have HK:=hii hK;clear hK hA;refine wO rfl ?_;go_simp;go_fit (zdG g R S f cap r s j W hr16 hs16 oM (hWc.mono hS) (HG.o.mono hS).env);rintro e w1⟨hz,hb1⟩;rw[Ht.o]at hz;obtain⟨J7,ao7,n7,Y7,K7,ap7,m7,Z7,rfl,hV7⟩:=hz.rat;have hn1:NoU (λb=>b=g11) w1:=(SS0.o.mono (bu hS hb1)).noU
       try dsimp only
       exact HK.o _ _ ⟨λ_=>hb1,λh=>absurd h (zas dM dM)⟩ (hV7.ru hn1)
      case s9=>
       obtain rfl:p=0:=by simpa using hp
       have hS:BH wc W:=hS;have e0:T 58=_:=hA.1 rfl;have e1:T 59=_:=hA.2.1 rfl;have r8:(_:FW) W (T 66):=hA.2.2.1 rfl;have r8:RU (λb=>b=g11) t W _:=r8;obtain⟨J8,ao8,n8,Y8,K8,ap8,m8,Z8,e8⟩:=r8.rat.parts;rw[e8]at r8;simp only[sA,e0,e1,e8]at hK|-;have HK:=hii hK;clear hK hA;refine wO rfl ?_;go_simp;go_fit (zhl g11 acc x t _ _ W (SS0.o.mono hS) (hv.mono hS) r8.rat HMu HAd (HG.o.mono hS));rintro e w1⟨rfl,hs1,hk1⟩
       try dsimp only
       exact HK.o _ _ ⟨λh=>absurd rfl h,λ_=>⟨hs1,hk1⟩⟩ (trivial)
      case he=>
       rintro T W hb hS hA;have hS:zcq W g11 0 (acc+x*t):=hS;simp only[sA];clear hA;have Hbj2:=hii (Hbj.o.trans (hb.below (λb e=>by rw[e];exact hg11) Hbj.o.size));rw[<-HTS.o]at hS;clear hb;go_wp2;go_roundw
       case rel=>exact⟨j+1,oM,gM,hS,Hbj2⟩
       case measure=>exact mM
     ·have hjm:j=m:=oM;rw[hjm]at hS9;have hjn:¬(j:Int)<(m:Int):=oM;obtain⟨hge,hcr⟩:=HGe.o;obtain⟨acc,hacc⟩:∃t,pS f Qs (r,s) m=t:=⟨_,rfl⟩;rw[hacc]at hS9 hge hcr;have Hge:Hid (decide (0<=Rq.cmpQ acc ld)=true):=hii (decide_eq_true (zd0 hge));have Hcr:=hii hcr;have hEr:=hEk.mono Hbj.o;have r4r:=r4k.below Hbj.o;have hlr:=hlk9.mono Hbj.o;obtain⟨J3,ao3,n3,Y3,K3,ap3,m3,Z3,rS,hVS⟩:=hS9;have hVS:=hVS rfl;clear hacc hge hcr hlj hjm;go_upto_region 15 with fail;clear hjn;obtain⟨wc,rfl⟩:=exi wr;refine zae (wx:=wc) [vf (pT g11 0),vf (pT g11 0),vf (pT g11 4),vf (.int .i64 0),vf bF_,vf bF_,vf (pT g11 0),vf (pT g11 0),vf (pT g11 0),vf (.agg #[.bool J3,.slice ao3 n3 Y3,.bool K3,.slice ap3 m3 Z3]),vf (.agg #[.bool J1,.slice ao1 n1 Y1,.bool K1,.slice ap1 m1 Z1]),vf (.bool true),vf bF_,vf bF_] [69,70,71,72,73,74,75,76,77,78,79,80,81,82] br zS ⟨tV,tV,tV,?s3,tV,tV,tV,tV,tV,?s9,?s10,?s11,tV,tV,trivial⟩ ?he
      case' s3|s9|s10|s11=>
       rintro T W hb hA K hK;simp only[yA,Region.binds]at hA;simp only[sA,hA]at hK|-;have HK:=hii hK;clear hK hA
      case' s3|s9=>
       have h9:=rS.below hb;obtain⟨k0,k1,k2,k3,k4⟩:=h9.n5
      case' s10=>
       obtain⟨e0,e1,e2,e3⟩:=(r4r.below hb).n4
      case s3|s9|s10=>
       exact cH
      case s11=>
       refine wO rfl ?_;go_simp;go_fit (zfe _ _ acc ld W (hVS.mono hb) (hlr.mono hb) Hcr (hEr.mono hb));rw[Hge.o];rintro e w1⟨rfl,hb1⟩
       try dsimp only
       exact d6
      case he=>
       rintro T W hb hA;have f13:T 82=bF_:=hA.at 13 dM;simp only[sA,f13];have Hbk2:=hii (Hbk.o.trans ((Below.step (hbr.trans (Hbj.o.mono hbr.size)) hb (Nat.le_trans nl nl)).mono Hbk.o.size));clear hA f13 hb;go_wp2;go_roundw
       case rel=>exact⟨k+1,oM,gM,Hbk2⟩
       case measure=>exact mM
   ·obtain rfl:k=n:=oM;go_wp2;go_ret;exact⟨rfl,Below.step hbw Hbk.o nl⟩
end Go.Proofs.YtfgffkmddanjjaaGreatDoor
