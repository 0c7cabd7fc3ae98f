import Derived.Test.YtfgffkmddanjjaaGreatDoorDuS
/-
  The small functions of the simplex method: zero, one, negative, calc, width.
-/
import Derived.Test.YtfgffkmddanjjaaGreatDoorE14
set_option linter.unusedVariables false
set_option linter.unusedSimpArgs false
set_option maxRecDepth 100000
set_option maxHeartbeats 25600000
namespace Go.Proofs.YtfgffkmddanjjaaGreatDoor
open _root_.Go.Proofs.Tryz
open Go.RowKit
theorem ziW{z:Int}(h:-1000000<=z/\z<=1000000):IntKind.i64.wrap z=z:=by
 unfold IntKind.wrap;simp[IntKind.bits,IntKind.signed];omega
noncomputable def zf9(n:Nat):Code->Option Code
 |.region k ops d=>if k=n then some (.region k ops d)else none
 |.seq a b=>(zf9 n a).orElse λ_=>zf9 n b
 |.cond _ a b=>(zf9 n a).orElse λ_=>zf9 n b
 |.block _ b=>zf9 n b
 |.loop b=>zf9 n b
 |.scope b=>zf9 n b
 |_=>none
noncomputable def rgn(f:Func)(n:Nat):Code:=(f.body.bind (zf9 n)).getD .skip
theorem KQ.ok{P:Prop}(h:P):KQ 0 P:=.inl ⟨rfl,h⟩
theorem Below.step'{B:Nat}{a b c:Wo}(h1:Below B a b)(h2:BH b c)(hB:B<=b.heap.size):Below B a c:=h1.trans (h2.mono hB)
theorem zeQ(w:Wo)(hE:Env w) :
  CP 118 #[] w λe w'=>zd7 w' 0 e/\BH w w':=by
 have hbw:=Below.refl w.heap.size w;go_enter func118,ntmps118;go_upto_region 1 with fail;have X0:=zaU.new w bF_ nS_ bF_ nS_ 32;have hb:=bA w (.cells #[bF_,nS_,bF_,nS_] 32);generalize w.alloc (.cells #[bF_,nS_,bF_,nS_] 32)=v1 at*;have hE:=hE.mono hb;have hbw:=bu hbw hb;clear hb;go_wp2_with fail;go_fit (zdQ 1 dM dM v1 hE);rintro e v2⟨⟨J1,ao1,n1,Y1,rfl,HV1⟩,hb⟩;have X0:=X0.mono hb;have hbw:=bu hbw hb;clear hb;obtain⟨x0a,x0b,x0c,x0d,_,_,_,_⟩:=id X0;go_wp2;refine bodyPost_ret (v:=.agg #[bF_,nS_,.bool J1,.slice ao1 n1 Y1]) (by simp[results,Tryz.results118,go_sem,x0a,x0b,x0c,x0d]) rfl ⟨⟨false,none,0,0,J1,ao1,n1,Y1,rfl,hii ((zai.zero _).put4B X0 bF_ nS_ (.bool J1) (.slice ao1 n1 Y1)),hii (HV1.o.put4B X0 bF_ nS_ (.bool J1) (.slice ao1 n1 Y1))⟩,Below.put4 hbw oM bF_ nS_ (.bool J1) (.slice ao1 n1 Y1)⟩
theorem zml(w:Wo)(hE:Env w) :
  CP 153 #[] w λe w'=>zd7 w' 1 e/\BH w w':=by
 have hbw:=Below.refl w.heap.size w;go_enter func153,ntmps153;go_upto_region 1 with fail;have X0:=zaU.new w bF_ nS_ bF_ nS_ 32;have hb:=bA w (.cells #[bF_,nS_,bF_,nS_] 32);generalize w.alloc (.cells #[bF_,nS_,bF_,nS_] 32)=v1 at*;have hE:=hE.mono hb;have hbw:=bu hbw hb;clear hb;go_wp2_with fail;go_fit (zdQ 1 dM dM v1 hE);rintro e v2⟨⟨J2,ao2,n2,Y2,rfl,HV2⟩,hb⟩;have X0:=X0.mono hb;have hE:=hE.mono hb;have hbw:=bu hbw hb;clear hb;go_wp2_with fail;go_fit (zdQ 1 dM dM v2 hE);rintro e v3⟨⟨J1,ao1,n1,Y1,rfl,HV1⟩,hb⟩;have X0:=X0.mono hb;have HV2:=hup HV2 hb;have hbw:=bu hbw hb;clear hb;obtain⟨x0a,x0b,x0c,x0d,_,_,_,_⟩:=id X0;go_wp2;refine bodyPost_ret (v:=.agg #[.bool J2,.slice ao2 n2 Y2,.bool J1,.slice ao1 n1 Y1]) (by simp[results,Tryz.results153,go_sem,x0a,x0b,x0c,x0d]) rfl ⟨⟨J2,ao2,n2,Y2,J1,ao1,n1,Y1,rfl,hii (HV2.o.put4B X0 _ _ _ _),hii (HV1.o.put4B X0 _ _ _ _)⟩,Below.put4 hbw oM _ _ _ _⟩
theorem zai.flip{w:Wo}{ng:Bool}{ao:OA}{n cap:Nat}{z:Int}(h:zai w (.agg #[.bool ng,.slice ao n cap]) z)(hz:z≠0):zai w (.agg #[.bool (!ng),.slice ao n cap]) (-z):=by
 obtain⟨neg,ao',L,cap',e,h1,h2,h3,h4,h5,h6⟩:=h
 cases e
 refine⟨_,ao,L,cap,rfl,hii ?_,hii (by rw[Int.natAbs_neg];exact h2.o),hii (by rw[Int.natAbs_neg];exact h3.o),h4,h5,h6⟩;rw[h1.o]
 by_cases hn:z<0
 ·rw[decide_eq_true hn,decide_eq_false oM];rfl
 ·rw[decide_eq_false hn,decide_eq_true oM];rfl
theorem zeV(v:Vl)(r:Rat)(w:Wo)(h:zad w v r)(hE:Env w) :
  CP 154 #[v] w λe w'=>zd7 w' (-r) e/\BH w w':=by
 obtain⟨s,hs⟩:∃s,zaB r.num=s:=⟨_,rfl⟩;have Hs:=hii hs;clear hs;have hbw:=Below.refl w.heap.size w;obtain⟨J1,ao1,n1,Y1,J2,ao2,n2,Y2,rfl,h1,h2⟩:=h;have HV1:=hii h1;have HV2:=hii h2;clear h1 h2;go_enter func154,ntmps154;go_upto_region 1 with fail;obtain⟨wx,hwx,r1,r2,hb⟩:=zaH w 32 32 [.bool J1,.slice ao1 n1 Y1,.bool J2,.slice ao2 n2 Y2] [bF_,nS_,bF_,nS_];simp only[List.toArray]at hwx;rw[<-hwx];clear hwx;obtain⟨g2,hg2⟩:=exi (w.heap.size+1);have Hg2:Hid (w.heap.size+1=g2):=hii hg2.symm;rw[<-hg2]at r2|-;clear hg2;obtain⟨g1,hg1⟩:=exi (w.heap.size);have Hg1:Hid (w.heap.size=g1):=hii hg1.symm;rw[<-hg1]at r1|-;clear hg1;obtain⟨w1,rfl⟩:=exi wx;have HV1:=hup HV1 hb;have HV2:=hup HV2 hb;have hE:=hE.mono hb;have hbw:=bu hbw hb;clear hb;obtain⟨c0,c1,c2,c3⟩:=r1.n4;go_wp2_with fail;go_fit (zbH _ r s w1 Hs (zad.mk' HV1 HV2) hE);rintro e w2⟨rfl,hb⟩;have HV1:=hup HV1 hb;have HV2:=hup HV2 hb;have hbw:=bu hbw hb;have r1:=r1.below hb;have r2:=r2.below hb;clear hb c0 c1 c2 c3
 by_cases hz:s=0
 ·subst hz;have r1':=r1.n4;obtain⟨c0,c1,c2,c3⟩:=r1';have f:=r2.free;have Hn:Hid ((-r).num=r.num):=hii (by have:=(zcT _).1 Hs.o;rw[Rat.neg_num];omega);obtain⟨d0,d1,d2,d3⟩:=r2.n4;go_wp2;have hk:zah (λb=>b=g2) w2 ((((w2.setCell (aD_ g2 0) (.bool J1)).setCell (aD_ g2 1) (.slice ao1 n1 Y1)).setCell (aD_ g2 2) (.bool J2)).setCell (aD_ g2 3) (.slice ao2 n2 Y2)) :=
   (((((zah.refl w2:zah (λk=>k=g2) w2 w2)).setCell (p:=⟨g2,0,none⟩) rfl _).setCell (p:=⟨g2,1,none⟩) rfl _).setCell (p:=⟨g2,2,none⟩) rfl _).setCell (p:=⟨g2,3,none⟩) rfl _
  have hno:=r2.noU (λu hu=>by simp at hu;rcases hu with rfl|rfl|rfl|rfl<;>intro z e<;>cases e);have q:=(((r2.set 0 (.bool J1)).set 1 (.slice ao1 n1 Y1)).set 2 (.bool J2)).set 3 (.slice ao2 n2 Y2);obtain⟨q0,q1,q2,q3⟩:=Row.n4 q;refine bodyPost_ret (v:=.agg #[.bool J1,.slice ao1 n1 Y1,.bool J2,.slice ao2 n2 Y2]) (by simp[results,Tryz.results154,go_sem,q0,q1,q2,q3]) rfl ⟨⟨_,_,_,_,_,_,_,_,rfl,hii (by rw[Hn.o];exact HV1.o.keptU hk hno),hii (by rw[Rat.neg_den];exact HV2.o.keptU hk hno)⟩,hbw.trans (hk.below (λb e=>by have:=Hg2.o;omega) hbw.size)⟩
 ·have g9:(s != 0)=true:=by simpa using hz
  have hzr:r.num≠0:=λe=>hz (by rw[<-Hs.o];exact(zcT _).2 e)
  have Hzr:=hii hzr;clear hzr;obtain⟨c0,c1,c2,c3⟩:=r1.n4;obtain⟨d0,d1,d2,d3⟩:=r2.n4;have f1:=r1.free;have f2:=r2.free;go_upto_region 3 with fail;have hk:=(zah.refl w2:zah (λk=>k=g1) w2 w2).setCell (p:=⟨g1,0,none⟩) rfl (.bool (!J1));have hno:=r1.noU (λu hu=>by simp at hu;rcases hu with rfl|rfl|rfl|rfl<;>intro z e<;>cases e);have q:=r1.set 0 (.bool (!J1));have r2:=r2.mono hk (by have:=Hg1.o;have:=Hg2.o;omega);have HV1:=hii (HV1.o.keptU hk hno);have HV2:=hii (HV2.o.keptU hk hno);have hbw:=hbw.trans (hk.below (λb e=>by have:=Hg1.o;omega) hbw.size);clear c0 c1 c2 c3 d0 d1 d2 d3 r1 hno hk f1 f2;generalize w2.setCell (aD_ g1 0) (.bool (!J1))=w3 at*;obtain⟨c0,c1,c2,c3⟩:=Row.n4 q;obtain⟨d0,d1,d2,d3⟩:=r2.n4;have f:=r2.free;go_wp2;have hk:zah (λb=>b=g2) w3 ((((w3.setCell (aD_ g2 0) (.bool (!J1))).setCell (aD_ g2 1) (.slice ao1 n1 Y1)).setCell (aD_ g2 2) (.bool J2)).setCell (aD_ g2 3) (.slice ao2 n2 Y2)) :=
   (((((zah.refl w3:zah (λk=>k=g2) w3 w3)).setCell (p:=⟨g2,0,none⟩) rfl _).setCell (p:=⟨g2,1,none⟩) rfl _).setCell (p:=⟨g2,2,none⟩) rfl _).setCell (p:=⟨g2,3,none⟩) rfl _
  have hno:=r2.noU (λu hu=>by simp at hu;rcases hu with rfl|rfl|rfl|rfl<;>intro z e<;>cases e);have q:=(((r2.set 0 (.bool (!J1))).set 1 (.slice ao1 n1 Y1)).set 2 (.bool J2)).set 3 (.slice ao2 n2 Y2);obtain⟨q0,q1,q2,q3⟩:=Row.n4 q;refine bodyPost_ret (v:=.agg #[.bool (!J1),.slice ao1 n1 Y1,.bool J2,.slice ao2 n2 Y2]) (by simp[results,Tryz.results154,go_sem,q0,q1,q2,q3]) rfl ⟨⟨_,_,_,_,_,_,_,_,rfl,hii (by rw[Rat.neg_num];exact(HV1.o.keptU hk hno).flip Hzr.o),hii (by rw[Rat.neg_den];exact HV2.o.keptU hk hno)⟩,hbw.trans (hk.below (λb e=>by have:=Hg2.o;omega) hbw.size)⟩
theorem zg8(p:Vl)(n1:Bool)(a1:OA)(l1 c1:Nat)(n2:Bool)(a2:OA)(l2 c2:Nat)(w:Wo) :
  CP 178 #[p,.agg #[.bool n1,.slice a1 l1 c1,.bool n2,.slice a2 l2 c2],.int .i64 0] w λe w'=>e=.returned (.agg #[.bool n1,.slice a1 l1 c1,.bool n2,.slice a2 l2 c2])/\BH w w':=by
 have hbw:=Below.refl w.heap.size w;go_enter func178,ntmps178;go_upto_region 1 with fail;obtain⟨wx,hwx,r1,r2,hb⟩:=zaH w 32 32 [.bool n1,.slice a1 l1 c1,.bool n2,.slice a2 l2 c2] [bF_,nS_,bF_,nS_];simp only[List.toArray]at hwx;rw[<-hwx];clear hwx;obtain⟨g2,hg2⟩:=exi (w.heap.size+1);have Hg2:Hid (w.heap.size+1=g2):=hii hg2.symm;rw[<-hg2]at r2|-;clear hg2;obtain⟨g1,hg1⟩:=exi (w.heap.size);rw[<-hg1]at r1|-;clear hg1;obtain⟨w1,rfl⟩:=exi wx;have hbw:=bu hbw hb;clear hb;obtain⟨x0,x1,x2,x3⟩:=r1.n4;obtain⟨d0,d1,d2,d3⟩:=r2.n4;have f:=r2.free;go_wp2;have q:=(((r2.set 0 (.bool n1)).set 1 (.slice a1 l1 c1)).set 2 (.bool n2)).set 3 (.slice a2 l2 c2);obtain⟨q0,q1,q2,q3⟩:=Row.n4 q;have hk:zah (λb=>b=g2) w1 ((((w1.setCell (aD_ g2 0) (.bool n1)).setCell (aD_ g2 1) (.slice a1 l1 c1)).setCell (aD_ g2 2) (.bool n2)).setCell (aD_ g2 3) (.slice a2 l2 c2)) :=
  (((((zah.refl w1:zah (λk=>k=g2) w1 w1)).setCell (p:=⟨g2,0,none⟩) rfl _).setCell (p:=⟨g2,1,none⟩) rfl _).setCell (p:=⟨g2,2,none⟩) rfl _).setCell (p:=⟨g2,3,none⟩) rfl _
 refine bodyPost_ret (v:=.agg #[.bool n1,.slice a1 l1 c1,.bool n2,.slice a2 l2 c2]) (by simp[results,Tryz.results178,go_sem,q0,q1,q2,q3]) rfl ⟨rfl,hbw.trans (hk.below (λb e=>by have:=Hg2.o;omega) hbw.size)⟩
theorem zcJ(g ga ca gb cb m n q:Nat)(hq:q=n+m)(hm:m<=1000)(hn:n<=1000)(w:Wo)(r:Row w g 164 [.int .i64 (m:Nat),.int .i64 (n:Nat),.slice (sD ga 0) (m+1) ca,.slice (sD gb 0) m cb,.int .i64 0]) :
  CP 117 #[pT g 0] w λe w'=>e=.returned (.int .i64 (q:Nat))/\BH w w':=by
 have eq:((q:Nat):Int)=(n:Int)+(m:Int):=by rw[hq];simp
 rw[eq];clear eq hq;go_enter func117,ntmps117;go_upto_region 1 with fail;refine zae (wx:=w) [vf (pT g 0),vf (pT g 0),vf (pT g 1),vf (.int .i64 (n:Nat)),vf (pT g 0),vf (pT g 0),vf (pT g 0),vf (.int .i64 (m:Nat)),vf (.int .i64 ((n:Int)+(m:Int))),vf (.int .i64 ((n:Int)+(m:Int)))] [3,4,5,6,7,8,9,10,11,2] br zS ⟨tV,tV,tV,?s3,tV,tV,tV,?s7,?s8,tV,trivial⟩ ?he
 case s3|s7=>
  rintro T W hb hA K hK;simp only[yA,Region.binds]at hA;simp only[sA,hA]at hK|-;have HK:=hii hK;clear hK hA;obtain⟨x0,x1,x2,x3,x4⟩:=(r.below hb).n5;exact cH
 case s8=>
  rintro T W hb hA K hK;simp only[yA,Region.binds]at hA;simp only[sA,hA]at hK|-;have HK:=hii hK;clear hK hA;refine wO rfl ?_;go_simp;exact HK.o _ _ br ((congrArg (Value.int IntKind.i64) (ziW oM)))
 case he=>
  rintro T W hb hA;have f9:T 2=.int .i64 ((n:Int)+(m:Int)):=hA.at 9 dM;simp only[sA,f9];clear hA f9;go_wp2;go_ret;exact⟨rfl,hb⟩
theorem zja(v:Vl)(r:Rat)(w:Wo)(h:zad w v r)(hE:Env w) :
  CP 177 #[v] w λe w'=>e=.returned (.bool (zmI r))/\BH w w':=by
 have e0:zmI r=decide (zaB r.num<0):=by rw[zhx];rfl
 rw[e0];clear e0;obtain⟨s,hs⟩:∃s,zaB r.num=s:=⟨_,rfl⟩;rw[hs];have Hs:=hii hs;clear hs;obtain⟨J1,ao1,n1,Y1,J2,ao2,n2,Y2,rfl⟩:=h.parts;go_enter func177,ntmps177;go_upto_region 1 with fail;have X1:=zaU.new w (.bool J1) (.slice ao1 n1 Y1) (.bool J2) (.slice ao2 n2 Y2) 32;have hb0:=bA w (.cells #[.bool J1,.slice ao1 n1 Y1,.bool J2,.slice ao2 n2 Y2] 32);generalize w.alloc (.cells #[.bool J1,.slice ao1 n1 Y1,.bool J2,.slice ao2 n2 Y2] 32)=v1 at*;have h:=h.mono hb0;have hE:=hE.mono hb0;obtain⟨x1a,x1b,x1c,x1d,_,_,_,_⟩:=id X1;go_wp2_with fail;go_fit (zbH _ r s v1 Hs h hE);rintro e v2⟨rfl,hb⟩;have hbw:=hb0.trans (hb.mono hb0.size);clear hb x1a x1b x1c x1d;go_wp2
 all_goals go_ret
 all_goals exact⟨by simp_all,hbw⟩
theorem zg3{B g ga ca gb cb m n q:Nat}{rr cr:Nat->Nat}{L:Nat->Nat->Rat}{bs:Nat->Nat}(w:Wo)(h:TB w B g ga ca gb cb m n q rr cr L bs) :
  CP 155 #[pT g 0] w λe w'=>e=.returned (.int .i64 (zhS zgW (zbt L m q)))/\BH w w':=by
 have eg1:∀args w,(callFunc 177 args).run Tryz.prog w=.ok (.enter 177 args) w:=enters_of func177 (by kernel_rfl) rfl;have hq2:q<=2000:=by have:=h.wq;have:=h.small;omega
 have hcap:q<=cr m:=by have:=h.cap (Nat.le_refl m);omega
 have HI:Hid (∀W,BH w W->CP 144 #[.slice (some ⟨rr m,0,none⟩) q (cr m),.func (.func 177) #[] #[]] W λe w'=>e=.returned (.int .i64 (zhS zgW (zbt L m q)))/\BH W w'):=by
  refine hii λW hb=>?_
  have h:=h.mono hb;have:=zd6 177 #[] zgW eg1 (zbt L m q) (some ⟨rr m,0,none⟩) (cr m) W (by rw[zap];omega) (h.uq (Nat.le_refl m) oM) h.Env' (by
   intro o v W2 ho hv hE2 hb2;obtain⟨r,rfl⟩:∃r,o=some r:=by
    unfold zbt at ho;obtain⟨j,_,rfl⟩:=List.mem_map.1 ho;exact⟨_,rfl⟩
   exact zja v r W2 hv hE2)
  rw[zap]at this;exact this
 obtain⟨z,hz⟩:∃z,zhS zgW (zbt L m q)=z:=⟨_,rfl⟩;rw[hz]at HI|-;clear hz eg1;obtain⟨hm,hn⟩:=h.small;have Hq:=hii h.wq;have hxm:(m:Int)<(m:Int)+1:=oM
 go_enter func155,ntmps155;go_upto_region 1 with fail;refine zae (wx:=w) [vf (pT g 0),vf (pT g 0),vf (pT g 2),vf (.slice (sD ga 0) (m+1) ca),vf (pT g 0),vf (pT g 0),vf (pT g 0),vf (.int .i64 (m:Nat)),vf (pT ga m),vf (.slice (some ⟨rr m,0,none⟩) (q+1) (cr m)),vf (pT g 0),vf (.int .i64 (q:Nat)),vf (.slice (some ⟨rr m,0,none⟩) q (cr m)),vf (.int .i64 z),vf (.int .i64 z)] [3,4,5,6,7,8,9,10,11,12,13,14,15,16,2] br zS ⟨tV,tV,tV,?s3,tV,tV,tV,?s7,tV,?s9,tV,?s11,tV,?s13,tV,trivial⟩ ?he
 case' s3|s7|s9|s11|s13=>
  rintro T W hb hA K hK;simp only[yA,Region.binds]at hA;simp only[sA,hA]at hK|-;have HK:=hii hK;clear hK hA
 case' s3|s7=>
  obtain⟨x0,x1,x2,x3,x4⟩:=(h.mono hb).box.n5
 case' s9=>
  have x5:=(h.mono hb).o m (Nat.le_refl m)
 case s3|s7|s9=>
  exact cH
 case s11=>
  refine wO rfl ?_;go_simp;go_fit (zcJ g ga ca gb cb m n q Hq.o hm hn W (h.mono hb).box);rintro e w1⟨rfl,hb1⟩
  try dsimp only
  exact d6
 case s13=>
  refine wO rfl ?_;go_simp;go_fit (HI.o W hb);rintro e w1⟨rfl,hb1⟩
  try dsimp only
  exact d6
 case he=>
  rintro T W hb hA;have f14:T 2=.int .i64 z:=hA.at 14 dM;simp only[sA,f14];clear hA f14;go_wp2;go_ret;exact⟨rfl,hb⟩
end Go.Proofs.YtfgffkmddanjjaaGreatDoor
