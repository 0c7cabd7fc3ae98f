/-
  load: weights, pairs.
-/
import Derived.Test.YtfgffkmddanjjaaGreatDoorLg
import Derived.Test.YtfgffkmddanjjaaGreatDoorFlowX
import Derived.Laws.StructEq
import Derived.Test.YtfgffkmddanjjaaGreatDoorE14
import Derived.Test.YtfgffkmddanjjaaGreatDoorSh
import Derived.Test.YtfgffkmddanjjaaGreatDoorSj
set_option linter.unusedVariables false
set_option linter.unusedSimpArgs false
set_option maxRecDepth 100000
set_option maxHeartbeats 25600000
namespace Go.Proofs.YtfgffkmddanjjaaGreatDoor
open _root_.Go.Proofs.Tryz
open Go.RowKit
variable {g k:Nat} {ao:OA} {v vA vB vC x0 x1 x2:Vl} {W W':Wo}
theorem zma.two{x y:Vl}{vs:List Vl}(h:zma v 2 vs)(e:v=.agg #[x,y]):vs=[x,y]:=by
 obtain⟨h1|h1,h2⟩:=h
 ·rw[e]at h1;simp only[Value.agg.injEq]at h1;have:=congrArg Array.toList h1
  simpa using this.symm
 ·rw[h1]at h2;simp at h2
theorem zo8(r i:Nat)(hr:r<65536):∃z:Int,bits .and .u16 ((r:Int) / 2 ^ i) 1=z/\(z==1)=r.testBit i:=by
 refine⟨_,zom r i hr,?_⟩
 cases r.testBit i<;>rfl
@[go_sem] theorem eqB2 (a b c d:Bool) (w:Wo):(Op.equalIn 10000 178 (.agg #[.bool a,.bool b]) (.agg #[.bool c,.bool d])).run Tryz.prog w=.ok (a == c && b == d) w:=by
 have u3:=Tryz.underlying4;have a3:=Tryz.isAgg4;have z3:=Tryz.sizeOf4;rw[show(10000:Nat)=9999+1 from rfl,Op.equalIn];simp only[Sem.run_bind,run_underlying Tryz.underlying178,Result.andThen_ok];simp only[Std.Legacy.Range.forIn_eq_forIn_range',Std.Legacy.Range.size,Nat.sub_zero,Nat.add_sub_cancel,Nat.div_one,List.range'_succ,List.range'_zero,List.forIn_cons,List.forIn_nil];go_simp
 by_cases h1:a=c<;>by_cases h2:b=d<;>simp[h1,h2]
@[go_sem] theorem eqPr (a b c d:Int) (w:Wo):(Op.equalIn 10000 115 (.agg #[.int .u16 a,.int .u16 b]) (.agg #[.int .u16 c,.int .u16 d])).run Tryz.prog w=.ok (a == c && b == d) w:=by
 have u3:=Tryz.underlying52;have a3:=Tryz.isAgg52;have z3:=Tryz.sizeOf52;have hS:Tryz.prog.underlying 115=some (.struct (Tryz.prog.fieldsOf 115)):=by kernel_rfl
 rw[show(10000:Nat)=9999+1 from rfl,run_equalIn_agg w 9999 115 _ _ hS (by kernel_rfl)];simp only[Program.fieldsOf,Tryz.underlying115];go_simp
 by_cases h1:a=c<;>by_cases h2:b=d<;>simp[h1,h2]
def ziO:Wo->List Vl->Nat×Nat->Prop:=λ_ c q=>c=[.int .u16 (q.1:Nat),.int .u16 (q.2:Nat)]
theorem zbw:zdh ziO:=λ_ _ _ _ _ h _ _=>h
theorem Tryz.info115:(Tryz.prog.info? 115).map (λi=>(i.zero,i.size,i.bytes))=some (some (.agg #[.int .u16 0,.int .u16 0]),2,4):=by kernel_rfl
theorem Tryz.slice112:Tryz.prog.underlying 112=some (.slice 115):=by kernel_rfl
theorem zk7(R S:LN){r:Nat}(h:R[k]?=some r):prs (R.take (k+1)) S=prs (R.take k) S++S.map λs=>(r,s):=by
 unfold prs;rw[zaw h,List.flatMap_append];simp
theorem zpw{a b:Int}:∀u∈[Value.int .u16 a,.int .u16 b],zaM u:=by
 intro u hu;simp at hu;rcases hu with rfl|rfl<;>(intro z e;cases e)
theorem zdG(g:Nat)(R S:LN)(f:Rat)(cap:List Rat)(r s i:Nat)(w:Wo)(hr:r<65536)(hs:s<65536)(hi:i<16)(hW:zd4 w g R S f cap)(hE:Env w) :
  CP 108 #[pT g 0,.int .u16 (r:Nat),.int .u16 (s:Nat),.int .i64 (i:Nat)] w λe w'=>zd7 w' (wt f (r,s) i) e/\BH w w':=by
 have hbw:=Below.refl w.heap.size w;obtain⟨t,ht⟩:∃t,wt f (r,s) i=t:=⟨_,rfl⟩;rw[ht];have HT:=hii ht;clear ht;obtain⟨z1,hz1,hx⟩:=zo8 r i hr;obtain⟨z2,hz2,hy⟩:=zo8 s i hs;obtain⟨x,hxx⟩:∃x,r.testBit i=x:=⟨_,rfl⟩;obtain⟨y,hyy⟩:∃x,s.testBit i=x:=⟨_,rfl⟩;have HT:Hid (t=if x=true then(if y=true then 1 else f)else if y=true then 1-f else 0):=hii (by rw[<-HT.o,<-hxx,<-hyy];rfl);rw[hxx]at hx;rw[hyy]at hy;clear hxx hyy;go_enter func108,ntmps108;go_upto_region 1 with fail;obtain⟨w1,gR,hw9,hg9,hb,rR⟩:=bxr w [bF_,nS_,bF_,nS_] 32;rw[<-hw9,<-hg9];have HgR:Hid (w.heap.size<=gR):=hii (by have:=hbw.size;omega);clear hw9 hg9;have hW:=hW.mono hb;have hE:=hE.mono hb;have hbw:=bu hbw hb;clear hb;refine zan (wx:=w1) (λ_=>False) [(λ_ X _=>X 0=.int .u16 (r:Nat)),(λ_ X _=>X 1=.int .i64 (i:Nat)),(λ_ X _=>X 2=.int .u16 ((r:Int) / 2 ^ i)),(λ_ X _=>X 3=.int .u16 z1),(λ_ X _=>X 4=.bool x),(λ_ X _=>X 5=.int .u16 (s:Nat)),(λ_ X _=>X 6=.int .i64 (i:Nat)),(λ_ X _=>X 7=.int .u16 ((s:Int) / 2 ^ i)),(λ_ X _=>X 8=.int .u16 z2),(λ_ X _=>X 9=.bool y),(λ_ X _=>X 10=.agg #[.bool x,.bool y]),(λ_ _ _=>True),(λ_ _ _=>True)] [some 10,some 11,some 12,some 13,some 14,some 15,some 16,some 17,some 18,some 19,some 20,some 9,none] [none,none,none,none,none,none,none,none,none,none,none,some ⟨12,10,178,[bF_,bF_]⟩,none] [10,11,12,13,14,15,16,17,18,19,20,9] ⟨(by intro u hu k z e;subst e;simp at hu),trivial⟩ (λb h=>h) br ⟨zaa _ _ _,zaa _ _ _,zaa _ _ _,zaa _ _ _,zaa _ _ _,zaa _ _ _,zaa _ _ _,zaa _ _ _,zaa _ _ _,zaa _ _ _,zaa _ _ _,zaj _,zaj _,trivial⟩ ⟨⟨λ_ _ _=>trivial,λ_ _ _=>trivial⟩,trivial⟩ ⟨tX,tX,tX,tX,tX,tX,tX,tX,tX,tX,tX,?s11,?s12,trivial⟩ ⟨?b11,trivial⟩ ?he
 case s11=>exact λh=>absurd h dM
 case s12=>exact λh=>absurd h dM
 case b11=>
  refine⟨?_,?_⟩
  ·exact cG
  ·rintro o ho G T W nb hA hp hrow K hK;obtain rfl:=Option.some.inj ho;have ep:T 9=.pointer (sD nb 0):=hp;have e10:T 20=_:=hA.2.1;have hK:=hK [.bool x,.bool y] (.inl e10) rfl (by intro u hu k z e;subst e;simp at hu);simp only[sA,ep,e10]at hK|-;have HK:=hii hK;clear hK hA ho;have q0:=hrow.cell (k:=0) sM;have f0:=hrow.free 0;have q1:=hrow.cell (k:=1) sM;have f1:=hrow.free 1;simp only[List.getElem_cons_zero,List.getElem_cons_succ]at q0 q1;refine wO rfl ?_;go_simp;exact HK.o
 case he=>
  rintro GG N T W hb hHG hGW hGo hbox hNG hne hA;have f10:T 20=.agg #[.bool x,.bool y]:=hA.at 10 dM;obtain⟨ep,_,hge,vs,hsto,hrow⟩:=hbox 11 _ rfl;have ep:T 9=.pointer (some ⟨N 11,0,none⟩):=ep;obtain rfl:=hsto.two f10;simp only[sA,ep];have hW:=hW.mono hb;have hE:=hE.mono hb;have rR:=rR.below hb;have hbw:=bu hbw hb;clear hb;clear hA hbox hNG hne hHG hGW hGo ep f10 hsto hge hz1 hz2 hx hy;have d0:=Row.cell (k:=0) hrow sM;have d1:=Row.cell (k:=1) hrow sM;obtain⟨w2,rfl⟩:=exi W;obtain⟨gB,hgB⟩:∃g,g=N 11:=⟨_,rfl⟩;rw[<-hgB]at d0 d1|-;clear hrow hgB;obtain⟨aR,cR,aS,cS,J1,ao1,n1,Y1,K1,ap1,m1,Z1,J2,ao2,n2,Y2,K2,ap2,m2,Z2,aC,cC,rW,-,-,hf,hg,-⟩:=hW;obtain⟨-,-,k2,k3,k4,k5,k6,k7,k8,k9,-⟩:=rW.n11
  cases x
  ·cases y
   ·have HT:Hid (t=((0:Int):Rat)):=hii (by rw[HT.o];rfl);go_wp2_with fail;go_fit (zaK 0 dM dM w2 hE);rintro e w3⟨hz,hb⟩;have rR:=rR.below hb;have hbw:=bu hbw hb;clear hb;obtain⟨J5,ao5,n5,Y5,K5,ap5,m5,Z5,rfl,hV⟩:=hz.rat;have hV:zad w3 (qA J5 ao5 n5 Y5 K5 ap5 m5 Z5) t:=by rw[HT.o];exact hV
    clear hz d0 d1 k2 k3 k4 k5 k6 k7 k8 k9;obtain⟨c0,c1,c2,c3⟩:=rR.n4;have fz:=rR.free;go_wp2;obtain⟨q,hk,hV⟩:=zfy rR zhK (.bool J5) (.slice ao5 n5 Y5) (.bool K5) (.slice ap5 m5 Z5) hV;obtain⟨e0,e1,e2,e3⟩:=q.n4;refine bodyPost_ret (v:=.agg #[.bool J5,.slice ao5 n5 Y5,.bool K5,.slice ap5 m5 Z5]) (by simp[results,Tryz.results108,go_sem,e0,e1,e2,e3]) rfl ⟨zd7.mk hV,?_⟩;exact cT
   ·have HT:Hid (t=1-f):=hii (by rw[HT.o];rfl);have hV:zad w2 (qA J2 ao2 n2 Y2 K2 ap2 m2 Z2) t:=by rw[HT.o];exact hg
    obtain⟨c0,c1,c2,c3⟩:=rR.n4;have fz:=rR.free;go_wp2;obtain⟨q,hk,hV⟩:=zfy rR zhK (.bool J2) (.slice ao2 n2 Y2) (.bool K2) (.slice ap2 m2 Z2) hV;obtain⟨e0,e1,e2,e3⟩:=q.n4;refine bodyPost_ret (v:=.agg #[.bool J2,.slice ao2 n2 Y2,.bool K2,.slice ap2 m2 Z2]) (by simp[results,Tryz.results108,go_sem,e0,e1,e2,e3]) rfl ⟨zd7.mk hV,?_⟩;exact cT
  ·cases y
   ·have HT:Hid (t=f):=hii (by rw[HT.o];rfl);have hV:zad w2 (qA J1 ao1 n1 Y1 K1 ap1 m1 Z1) t:=by rw[HT.o];exact hf
    obtain⟨c0,c1,c2,c3⟩:=rR.n4;have fz:=rR.free;go_wp2;obtain⟨q,hk,hV⟩:=zfy rR zhK (.bool J1) (.slice ao1 n1 Y1) (.bool K1) (.slice ap1 m1 Z1) hV;obtain⟨e0,e1,e2,e3⟩:=q.n4;refine bodyPost_ret (v:=.agg #[.bool J1,.slice ao1 n1 Y1,.bool K1,.slice ap1 m1 Z1]) (by simp[results,Tryz.results108,go_sem,e0,e1,e2,e3]) rfl ⟨zd7.mk hV,?_⟩;exact cT
   ·have HT:Hid (t=((1:Int):Rat)):=hii (by rw[HT.o];rfl);go_wp2_with fail;go_fit (zaK 1 dM dM w2 hE);rintro e w3⟨hz,hb⟩;have rR:=rR.below hb;have hbw:=bu hbw hb;clear hb;obtain⟨J5,ao5,n5,Y5,K5,ap5,m5,Z5,rfl,hV⟩:=hz.rat;have hV:zad w3 (qA J5 ao5 n5 Y5 K5 ap5 m5 Z5) t:=by rw[HT.o];exact hV
    clear hz d0 d1 k2 k3 k4 k5 k6 k7 k8 k9;obtain⟨c0,c1,c2,c3⟩:=rR.n4;have fz:=rR.free;go_wp2;obtain⟨q,hk,hV⟩:=zfy rR zhK (.bool J5) (.slice ao5 n5 Y5) (.bool K5) (.slice ap5 m5 Z5) hV;obtain⟨e0,e1,e2,e3⟩:=q.n4;refine bodyPost_ret (v:=.agg #[.bool J5,.slice ao5 n5 Y5,.bool K5,.slice ap5 m5 Z5]) (by simp[results,Tryz.results108,go_sem,e0,e1,e2,e3]) rfl ⟨zd7.mk hV,?_⟩;exact cT
theorem zdy(g:Nat)(R S:LN)(f:Rat)(cap:List Rat)(w:Wo)(hR:R.length<=900)(hS:S.length<=1000)(hW:zd4 w g R S f cap) :
  CP 68 #[pT g 0] w λe w'=>(∃v,e=.returned v/\za6 115 2 ziO w' w.heap.size v (prs R S))/\BH w w':=by
 have hbw:=Below.refl w.heap.size w;obtain⟨aR,cR,aS,cS,J1,ao1,n1,Y1,K1,ap1,m1,Z1,J2,ao2,n2,Y2,K2,ap2,m2,Z2,aC,cC,rW,uR,uS,-⟩:=hW;obtain⟨k0,k1,-⟩:=rW.n11;obtain⟨N,hN⟩:∃N,R.length=N:=⟨_,rfl⟩;obtain⟨M,hM⟩:∃N,S.length=N:=⟨_,rfl⟩;have HN:=hii hN;have HM:=hii hM;rw[hN]at hR k0;rw[hM]at hS k1;have rW0:=rW;rw[hN,hM]at rW;clear hN hM k0 k1 rW0;obtain⟨k0,-⟩:=rW.n11;go_enter func68,ntmps68;go_wp2_with fail;go_loopw [3,13] (λv s wr=>∃k:Nat,k<=N/\s=.int .i64 k/\za6 115 2 ziO wr w.heap.size v (prs (R.take k) S)/\BH w wr) (λ_ s _=>N-(intOf s).toNat)
 case atStart=>exact⟨0,Nat.zero_le _,rfl,za6.nil _ _,hbw⟩
 case round=>
  clear hbw k0;obtain⟨k,hk,rfl,hO,hbw⟩:=hrel
  by_cases hlt:k<N
  ·obtain⟨r,hx⟩:∃x,R[k]?=some x:=⟨R[k]'(by rw[HN.o];exact hlt),gE _⟩;obtain⟨b1,off1,ea,hc⟩:=(uR.mono hbw) k r hx;have HX:=hii hx;have HP:Hid (prs (R.take (k+1)) S=prs (R.take k) S++S.map λs=>(r,s)):=hii (zk7 R S hx);obtain⟨L,hL⟩:∃L,prs (R.take k) S=L:=⟨_,rfl⟩;rw[hL]at hO HP;have HLl:Hid (L.length<=900000):=hii (by rw[<-hL,zbX];have:(R.take k).length*S.length<=900*1000:=Nat.mul_le_mul (by rw[List.length_take,HN.o];omega) (by rw[HM.o];exact hS);omega);obtain⟨-,k1,-⟩:=(rW.below hbw).n11;clear hx hL;subst ea;obtain⟨wo,rfl⟩:=exi wr;go_wp2_with fail;clear hc k1;go_loopw [3,22] (λv s wr=>∃j:Nat,j<=M/\s=.int .i64 j/\za6 115 2 ziO wr w.heap.size v (L++(S.take j).map λs=>(r,s))/\BH w wr) (λ_ s _=>M-(intOf s).toNat)
   case atStart=>exact⟨0,Nat.zero_le _,rfl,by simpa using hO,hbw⟩
   case round=>
    clear hbw hO;obtain⟨j,hj,rfl,hO,hbi⟩:=hrel
    by_cases hlj:j<M
    ·obtain⟨s,hx⟩:∃x,S[j]?=some x:=⟨S[j]'(by rw[HM.o];exact hlj),gE _⟩;obtain⟨b2,off2,ea2,hc⟩:=(uS.mono hbi) j s hx;have HS2:Hid (L++(S.take (j+1)).map (λs=>(r,s))=L++(S.take j).map (λs=>(r,s))++[(r,s)]):=hii (by rw[zaw hx];simp);have HL:Hid ((L++(S.take j).map λs=>(r,s)).length<=1000000):=hii (by
      have:=HLl.o;simp;omega)
     clear hx;subst ea2;go_wp2_with (at_builtin;go_loud (refine zkg ziO zbw Tryz.slice112 Tryz.info115 rfl dM dM zpw wr w w.heap.size rfl (.tmp 26) (.tmp 30) rfl (a:=(r,s)) rfl rfl hO hbi.size hbi rfl (λu hu=>by simp at hu;rcases hu with rfl|rfl<;>rfl) zpw rfl HL.o ?_);intro v2 w3 hO2 hb2 _ _);rw[<-HS2.o]at hO2;go_roundw
     case rel=>exact⟨j+1,oM,gM,hO2,hb2⟩
     case measure=>exact mM
    ·obtain rfl:j=M:=oM;rw[<-HM.o,List.take_length,<-HP.o]at hO;go_wp2;go_roundw
     case rel=>exact⟨k+1,oM,gM,hO,hbi⟩
     case measure=>exact mM
  ·obtain rfl:k=N:=oM;rw[<-HN.o,List.take_length]at hO;obtain⟨ao,c,e9,_,_⟩:=hO.read;subst e9;go_wp2;go_ret;exact⟨⟨_,rfl,hO⟩,hbw⟩
def PL(W:Wo)(g:Nat)(vA vB vC:Vl)(rows:List (List Qo))(lc:List Qo):Prop:=Row W g 105 [vA,vB,vC]/\MS W (g+1) vA nS_ vC rows [] lc/\zaJ vA/\zaJ vB/\zaJ vC
theorem PL.mono{rows:List (List Qo)}{lc:List Qo}(h:PL W g vA vB vC rows lc)(hb:BH W W'):PL W' g vA vB vC rows lc :=
 ⟨h.1.below hb,h.2.1.mono hb,h.2.2⟩
theorem noG3'{E:TypeId}(hr:Row W g E [x0,x1,x2])(hn:zaJ x0/\zaJ x1/\zaJ x2):NoG (λb=>b=g) W:=by
 intro b hb cur t fr hc;subst hb;have:=hr.symm.trans hc;simp only[Option.some.injEq,Obj.cells.injEq]at this;obtain⟨rfl,_,_⟩:=this;intro u hu;simp at hu;rcases hu with rfl|rfl|rfl
 ·exact hn.1
 ·exact hn.2.1
 ·exact hn.2.2
theorem PL.write{rows:List (List Qo)}{lc:List Qo}(hr:Row W g 105 [x0,x1,x2])(hn:zaJ x0/\zaJ x1/\zaJ x2)(h:MS W (g+1) vA nS_ vC rows [] lc)(hB:zaJ vB)(k:Nat)(x:Vl)(hl:[x0,x1,x2].set k x=[vA,vB,vC]) :
  PL (W.setCell (aD_ g k) x) g vA vB vC rows lc:=by
 have hk:zah (λb=>b=g) W (W.setCell (aD_ g k) x):=(zah.refl W:zah (λb=>b=g) W W).setCell (p:=⟨g,k,none⟩) rfl x;refine⟨?_,h.kept hk (noG3' hr hn) (λb hb=>by omega),h.noInt.1,hB,h.noInt.2.2⟩;rw[<-hl];exact hr.set k x
section
variable {ops : Array Oper} {rest : List Oper} {o : Oper} {a : Act} {Q : Exit → Act → Wo → Prop}
theorem zlB(W X:Wo)(g:Nat)(hgd:o.guard=none)(s x:Operand)(ho:o.op=.call {callee:=.builtin .append,args:=#[s,x],argTypes:=#[103,103]})
  {vA vB vC:Vl}{rows:List (List Qo)}{lc row:List Qo}{ar:OA}{n cr:Nat}(hn:n=row.length)(hs:a.eval s=vA)(hx:a.eval x=.slice (some ⟨W.heap.size,0,none⟩) 1 1)(h:PL W g vA vB vC rows lc)
  (hq:UQ W ar row)(hsp:∀b,(Value.slice ar n cr).ownBlock=some b->g+1<=b/\b<W.heap.size/\vA.ownBlock≠some b/\vC.ownBlock≠some b)
  (hb:Below (g+1) X W)(hl:rows.length<=1000000)
  (hK:∀a' n' c' w',Row w' g 105 [vA,vB,vC]->MS w' (g+1) (.slice a' n' c') nS_ vC (rows++[row]) [] lc->Below (g+1) X w'->wpList Tryz.prog ops Q rest (a.put o.dst (.slice a' n' c')) w') :
  wpList Tryz.prog ops Q (o :: rest) a (W.alloc (.cells #[.slice ar n cr] 33)):=by
 subst hn;have hba:=bA W (.cells #[.slice ar row.length cr] 33);have hg:g<W.heap.size:=h.1.lt;have h2:=h.mono hba;have hsz:W.heap.size<=(W.alloc (.cells #[.slice ar row.length cr] 33)).heap.size:=hba.size;obtain⟨v',w',hr,h3,h4,gr⟩:=h2.2.1.run_row X o.type (bx:=W.heap.size) (c:=1) (hq.mono hba) (λb e=>⟨(hsp b e).1,Nat.lt_of_lt_of_le (hsp b e).2.1 hsz,(hsp b e).2.2.1,by simp[Value.ownBlock],(hsp b e).2.2.2⟩) oM (hb.alloc oM _) (by simp[go_sem]) hl;obtain⟨a',n',c',rfl⟩:=h3.slices.1;refine wpList_plain hgd λK hK'=>?_
 exact zat s x ho hs hx hr (hK' _ _ (hK _ _ _ _ (h2.1.grw gr λb e=>(h2.2.1.lts.1 b e).1) h3 h4))
theorem zop(W X:Wo)(B:Nat)(hgd:o.guard=none)(s x:Operand)(ho:o.op=.call {callee:=.builtin .append,args:=#[s,x],argTypes:=#[33,33]})
  {v:Vl}{l:List Qo}{r:Rat}{J1:Bool}{ao1:OA}{n1 Y1:Nat}{K1:Bool}{ap1:OA}{m1 Z1:Nat}(hs:a.eval s=v)(hx:a.eval x=.slice (some ⟨W.heap.size,0,none⟩) 1 1)(hown:zaI W B v l)(hB:B<=W.heap.size)(hb:Below B X W)(hr:zad W (qA J1 ao1 n1 Y1 K1 ap1 m1 Z1) r)(hl:l.length<=100000)
  (hK:∀v' w',zaI w' B v' (l++[some r])->Below B X w'->wpList Tryz.prog ops Q rest (a.put o.dst v') w') :
  wpList Tryz.prog ops Q (o :: rest) a (W.alloc (.cells #[.bool J1,.slice ao1 n1 Y1,.bool K1,.slice ap1 m1 Z1] 32)):=by
 have hba:=bA W (.cells #[.bool J1,.slice ao1 n1 Y1,.bool K1,.slice ap1 m1 Z1] 32);obtain⟨v',w',h1,h2,h3,_⟩:=zcf (W.alloc (.cells #[.bool J1,.slice ao1 n1 Y1,.bool K1,.slice ap1 m1 Z1] 32)) X o.type B v l (some r) _ 1 (hown.mono hba) (Nat.le_trans hB hba.size) (hb.alloc hB _) (zfD hr) hl;refine wpList_plain hgd λK hK'=>?_
 exact zat s x ho hs hx h1 (hK' _ _ (hK v' w' h2 h3))
end
theorem zmf(f:Rat)(l:List (Nat×Nat))(m:Nat):(wA f l (m+1)).map (·.map (some:Rat->Qo))=(wA f l m).map (·.map some)++[(l.map λq=>wt f q m).map some]:=by
 unfold wA;rw[List.range_succ,List.map_append,List.map_append];rfl
theorem zkY(k:Nat):(List.replicate (k+1) (some (1:Rat)):List Qo)=List.replicate k (some 1)++[some 1]:=by
 rw[List.replicate_succ']
theorem zir(g:Nat)(R S:LN)(f:Rat)(cap:List Rat)(w:Wo)(hR:R.length<=900)(hS:S.length<=1000)(hRS:R.length*S.length<=1000)(h16:Hid (zaR R/\zaR S))(hc1:1<=cap.length/\cap.length<=12)(hW:zd4 w g R S f cap)(hE:Env w) :
  CP 113 #[pT g 0] w λe w'=>(∃aA cA aB cB aC cC,e=.returned (.agg #[.slice aA cap.length cA,.slice aB cap.length cB,.slice aC (prs R S).length cC])/\UM w' aA ((wA f (prs R S) cap.length).map (·.map some))/\UQ w' aB (cap.map some)/\UQ w' aC (List.replicate (prs R S).length (some 1)))/\BH w w':=by
 have hbw:=Below.refl w.heap.size w;obtain⟨l,hl⟩:∃l,prs R S=l:=⟨_,rfl⟩;have Hl:=hii hl;have HP16:Hid (∀q∈l,q.1<65536/\q.2<65536):=hii λq hq=>by
  rw[<-hl]at hq;exact⟨h16.o.1 _ (zbW hq).1,h16.o.2 _ (zbW hq).2⟩
 have hln:l.length<=1000:=by rw[<-hl,zbX];exact hRS
 rw[hl];clear hl hRS;obtain⟨n,hn⟩:∃n,l.length=n:=⟨_,rfl⟩;obtain⟨m,hm⟩:∃n,cap.length=n:=⟨_,rfl⟩;have Hn:=hii hn;have Hm:=hii hm;rw[hn]at hln|-;rw[hm]at hc1|-;clear hn hm;go_enter func113,ntmps113;go_upto_region 1 with fail;obtain⟨w1,g2,hw9,hg9,hb,r2⟩:=bxr w [nS_,nS_,nS_] 105;rw[<-hw9,<-hg9];have Hg2:Hid (w.heap.size<=g2):=hii (by have:=hbw.size;omega);clear hw9 hg9;have hW:=hW.mono hb;have hE:=hE.mono hb;have hbw:=bu hbw hb;clear hb;have HPr:=zdy g R S f cap w1 hR hS hW;rw[Hl.o]at HPr;go_wp2_with fail;(with_reducible refine HPr.mono ?_);rintro e w2⟨⟨vl,rfl,hO⟩,hb⟩;have hW:=hW.mono hb;have hE:=hE.mono hb;have r2:=r2.below hb;have hbw:=bu hbw hb;clear hb;clear HPr;obtain⟨al,cl,rfl,-,uL⟩:=hO.read;rw[Hn.o];clear hO;have hW0:=hW;obtain⟨aR,cR,aS,cS,J1,ao1,n1,Y1,K1,ap1,m1,Z1,J2,ao2,n2,Y2,K2,ap2,m2,Z2,aC,cC,rW,-,-,-,-,uC⟩:=hW0;rw[Hm.o]at rW;obtain⟨-,-,-,-,-,-,-,-,-,-,k10⟩:=rW.n11;obtain⟨b0,off0,rfl⟩:∃b off,aC=some ⟨b,off,none⟩:=by
  obtain⟨b,off,_,_,_,_,_,_,_,_,e,_⟩:=uC 0 (some (cap[0]'(by rw[Hm.o];omega))) sM;exact⟨b,off,e⟩
 have HCl:=zcn (cap.map some) m b0 off0 cC w2 (hii (by rw[List.length_map,Hm.o])) (hii (by rw[List.length_map,Hm.o];omega)) (hii (by rw[List.length_map,Hm.o];omega)) uC;have hg2w:=r2.lt;go_wp2_with fail;(with_reducible refine HCl.mono ?_);rintro e w3⟨⟨vB,rfl,hOB⟩,hb⟩;have hW:=hW.mono hb;have hE:=hE.mono hb;have r2:=r2.below hb;have rW:=rW.below hb;have uL:=uL.mono zbw hb;have hbw:=bu hbw hb;clear hb;obtain⟨aB,cB,rfl,uB⟩:=hOB.read;have HaB:Hid (∀a,aB=some a->¬a.block=g2):=hii (λa e=>by subst e;have:=(hOB.lt a.block rfl).1;omega);rw[List.length_map,Hm.o];clear hg2w;clear HCl k10 hOB uC;go_upto_region 3 with fail;obtain⟨wb,rfl⟩:=exi w3;have hb:=bA wb (.cells #[nS_,.slice aB m cB,nS_] 105);have rp:Row (wb.alloc (.cells #[nS_,.slice aB m cB,nS_] 105)) wb.heap.size 105 [nS_,.slice aB m cB,nS_]:=heap_alloc_new _ _;obtain⟨gp,hg⟩:=exi (wb.heap.size);have hsz:(wb.alloc (.cells #[nS_,.slice aB m cB,nS_] 105)).heap.size=gp+1:=by rw[hg];simp
 rw[<-hg]at rp|-;have hgl:wb.heap.size<=gp:=oM
 clear hg hsz;have HbX:=hii hb;generalize wb.alloc (.cells #[nS_,.slice aB m cB,nS_] 105)=w4 at*;have hP:PL w4 gp nS_ (.slice aB m cB) nS_ [] []:=⟨rp,MS.nil _ _,zaN _ _ _,zaN _ _ _,zaN _ _ _⟩;clear rp hb;go_wp2_with fail;go_loopw [19] (λs wr=>∃k:Nat,∃vC:Vl,k<=n/\s=.int .i64 k/\PL wr gp nS_ (.slice aB m cB) vC [] (List.replicate k (some 1))/\Hid (BH wb wr)) (λs _=>n-(intOf s).toNat)
 case atStart=>exact⟨0,_,Nat.zero_le _,rfl,hP,HbX⟩
 case round=>
  clear hP HbX;obtain⟨k,vC,hk,rfl,hP,HbX⟩:=hrel
  by_cases hlt:k<n
  ·obtain⟨wo,rfl⟩:=exi wr;have HP5:=hii hP;have HL5:Hid (((List.replicate k (some 1)):List Qo).length<=100000):=hii (by simp;omega);clear hP;go_upto_region 5 with fail;refine zau srB (wx:=wb) [vf (pT gp 2),vf vC,(λ_ _=>True),(λ_ _=>True),(λ_ _=>True),vf (pT gp 2),(λ_ _=>True)] [some 21,some 22,some 23,some 24,some 25,some 26,none] [21,22,23,24,25,26] [2,3,4,6] [[0,1,2,3],[0,1,2],[0],[1],[2],[3],[3]] [none,none,none,none,none,none,none] (λp T W=>match p with|0=>BH wo W|1=>BH wo W/\zad W (T 23) 1|2=>BH wo W/\∃n,T 24=.slice (sD n 0) 1 1/\UQ W (sD n 0) [some 1]|3=>Row W gp 105 [nS_,.slice aB m cB,vC]/\MS W (gp+1) nS_ nS_ (T 25) [] [] (List.replicate k (some 1)++[some 1])|_+4=>PL W gp nS_ (.slice aB m cB) (T 25) [] (List.replicate k (some 1)++[some 1])) (λT=>br.drew) (λp T W W' h hb=>match p,h with|0,h=>bu h hb|1,h=>⟨bu h.1 hb,h.2.mono hb⟩|2,h=>⟨bu h.1 hb,h.2.choose,h.2.choose_spec.1,h.2.choose_spec.2.mono hb⟩|3,h=>⟨h.1.below hb,h.2.mono hb⟩|_+4,h=>h.mono hb) (λp T T' W hT h=>match p,hT,h with|0,_,h=>h|1,hT,h=>(by have e0:T' 23=T 23:=hT 0 dM;have h:BH wo W/\zad W (T 23) 1:=h;show BH wo W/\zad W (T' 23) 1;rw[e0];exact h)|2,hT,h=>(by have e1:T' 24=T 24:=hT 1 dM;have h:BH wo W/\∃n,T 24=.slice (sD n 0) 1 1/\UQ W (sD n 0) [some 1]:=h;show BH wo W/\∃n,T' 24=.slice (sD n 0) 1 1/\UQ W (sD n 0) [some 1];rw[e1];exact h)|3,hT,h=>(by have e2:T' 25=T 25:=hT 2 dM;have h:Row W gp 105 [nS_,.slice aB m cB,vC]/\MS W (gp+1) nS_ nS_ (T 25) [] [] (List.replicate k (some 1)++[some 1]):=h;show Row W gp 105 [nS_,.slice aB m cB,vC]/\MS W (gp+1) nS_ nS_ (T' 25) [] [] (List.replicate k (some 1)++[some 1]);rw[e2];exact h)|_+4,hT,h=>(by have e2:T' 25=T 25:=hT 2 oM;have h:PL W gp nS_ (.slice aB m cB) (T 25) [] (List.replicate k (some 1)++[some 1]):=h;show PL W gp nS_ (.slice aB m cB) (T' 25) [] (List.replicate k (some 1)++[some 1]);rw[e2];exact h)) (HbX.o) ⟨zac _ _,zac _ _,(λ_ _ _ h _=>h),(λ_ _ _ h _=>h),(λ_ _ _ h _=>h),zac _ _,(λ_ _ _ h _=>h),trivial⟩ ⟨?s0,?s1,?s2,?s3,?s4,?s5,?s6,trivial⟩ ?he
   case' s0|s1|s2|s3|s4|s5|s6=>
    rintro T W p hb hp hS hA K hK
   case s1=>
    have hp:p∈[0,1,2]:=hp;simp only[List.mem_cons,List.not_mem_nil,or_false]at hp;rcases hp with rfl|rfl|rfl
    ·have hS:BH wo W:=hS;have e0:T 21=_:=hA.1 rfl;have hW9:BH wo W:=by first|exact hS|exact hS.1
     exact dW
    ·have hS:BH wo W/\zad W (T 23) 1:=hS;have e0:T 21=_:=hA.1 rfl;have hW9:BH wo W:=by first|exact hS|exact hS.1
     exact dW
    ·have hS:BH wo W/\∃n,T 24=.slice (sD n 0) 1 1/\UQ W (sD n 0) [some 1]:=hS;have e0:T 21=_:=hA.1 rfl;have hW9:BH wo W:=by first|exact hS|exact hS.1
     exact dW
   case s0|s5=>
    clear hS;simp only[sA]at hK|-;exact cE
   case s2=>
    obtain rfl:p=0:=by simpa using hp
    have hS:BH wo W:=hS;simp only[sA]at hK|-;have HK:=hii hK;clear hK hA;refine wO rfl ?_;go_simp;go_fit (zaK 1 dM dM W (hE.mono hb));rintro e w1⟨hz9,hb1⟩;obtain⟨J9,ao9,n9,Y9,K9,ap9,m9,Z9,rfl,hV9⟩:=hz9.rat;have hV9:zad w1 (qA J9 ao9 n9 Y9 K9 ap9 m9 Z9) 1:=hV9
    try dsimp only
    exact HK.o _ _ ⟨λh=>absurd rfl h,λ_=>⟨⟨bu hS hb1,hV9⟩,hb1.mono hb.size⟩⟩ (trivial)
   case s3=>
    obtain rfl:p=1:=by simpa using hp
    have hS:BH wo W/\zad W (T 23) 1:=hS;obtain⟨n1,a1,l1,c1,n2,a2,l2,c2,e2⟩:=hS.2.parts;have r8:=hS.2;rw[e2]at r8;simp only[sA,e2]at hK|-;have HK:=hii hK;clear hK hA;refine wO rfl ?_;go_simp;obtain⟨w1,hw1⟩:∃w1,w1=W.alloc (.cells #[.bool n1,.slice a1 l1 c1,.bool n2,.slice a2 l2 c2] 32):=⟨_,rfl⟩;have hb1:BH W w1:=by rw[hw1];exact bA W _
    have huq:UQ w1 (some ⟨W.heap.size,0,none⟩) [some 1]:=by rw[hw1];exact zfD r8
    rw[<-hw1]
    try dsimp only
    exact HK.o _ _ ⟨λh=>absurd rfl h,λ_=>⟨⟨bu hS.1 hb1,_,rfl,huq⟩,hb1.mono hb.size⟩⟩ (trivial)
   case s4=>
    obtain rfl:p=2:=by simpa using hp
    have hS:BH wo W/\∃n,T 24=.slice (sD n 0) 1 1/\UQ W (sD n 0) [some 1]:=hS;have e1:T 22=_:=hA.1 rfl;simp only[sA,e1]at hK|-;have HK:=hii hK;clear hK hA;obtain⟨hW9,n9,e9,huq⟩:=hS;have hPW:=HP5.o.mono hW9;obtain⟨v1,w1,hr,ho,hbb,gr⟩:=zcf W W 33 (gp+1) vC (List.replicate k (some 1)) (some 1) (sD n9 0) 1 hPW.2.1.c hPW.1.lt br huq HL5.o;rw[<-e9]at hr;have hbw1:Below wb.heap.size W w1:=hbb.mono oM;refine wO rfl ?_;refine zat _ _ rfl rfl rfl hr ?_;simp only[Act.put,List.setIfInBounds_toArray,List.set_cons_zero,List.set_cons_succ];exact HK.o _ _ ⟨λh=>absurd rfl h,λ_=>⟨⟨hPW.1.grw gr (λt e=>(hPW.2.1.lts.2.2 t e).1),hPW.2.1.growC gr ho⟩,hbw1⟩⟩ (trivial)
   case s6=>
    obtain rfl:p=3:=by simpa using hp
    have hS:Row W gp 105 [nS_,.slice aB m cB,vC]/\MS W (gp+1) nS_ nS_ (T 25) [] [] (List.replicate k (some 1)++[some 1]):=hS;have e5:T 26=_:=hA.1 rfl;obtain⟨hR9,hM⟩:=hS;obtain⟨a9,n9,c9,e4⟩:=hM.slices.2.2;obtain⟨y0,y1,y2⟩:=hR9.n3;have q1:=hR9.free 2;have h9:PL (W.setCell (aD_ gp 2) (T 25)) gp nS_ (.slice aB m cB) (T 25) [] (List.replicate k (some 1)++[some 1]):=PL.write hR9 HP5.o.2.2 hM (zaN _ _ _) 2 _ rfl;simp only[sA,e5,e4]at hK|-;have HK:=hii hK;clear hK hA;refine wO rfl ?_;go_simp;exact HK.o undef _ ⟨λh=>absurd rfl h,λ_=>⟨(by rw[<-e4];exact h9),(Below.refl _ W).setCell (p:=⟨gp,2,none⟩) hgl _⟩⟩ (trivial)
   case he=>
    rintro T W hb hS hA;have hS:PL W gp nS_ (.slice aB m cB) (T 25) [] (List.replicate k (some 1)++[some 1]):=hS;simp only[sA];rw[<-zkY]at hS;clear hA;go_wp2;go_roundw
    case rel=>exact⟨k+1,_,oM,gM,hS,hii hb⟩
    case measure=>exact mM
  ·obtain rfl:k=n:=oM;obtain⟨LC,hLC⟩:∃L:List Qo,L=List.replicate k (some 1):=⟨_,rfl⟩;rw[<-hLC]at hP;have HLC:=hii hLC;clear hLC hlt hk;have rW1:=rW.below HbX.o;obtain⟨-,-,-,-,-,-,-,-,-,-,k10⟩:=rW1.n11;go_wp2_with fail;clear k10;go_loopw [33] (λs wr=>∃i:Nat,∃vA:Vl,i<=m/\s=.int .i64 i/\PL wr gp vA (.slice aB m cB) vC ((wA f l i).map (·.map some)) LC/\Hid (BH wb wr)) (λs _=>m-(intOf s).toNat)
   case atStart=>exact⟨0,_,Nat.zero_le _,rfl,hP,HbX⟩
   case round=>
    clear hP HbX rW1;obtain⟨i,vA,hi,rfl,hP,HbX⟩:=hrel
    by_cases hli:i<m
    ·obtain⟨wo,rfl⟩:=exi wr;have HgB:Hid (gp+1<=wo.heap.size):=hii hP.1.lt;have hWo:=hW.mono HbX.o;have hEo:=hE.mono HbX.o;have uLo:=uL.mono zbw HbX.o;have hbo:=Below.refl wo.heap.size wo;go_wp2_with fail;go_loopw [6,38] (λv s wr=>∃j:Nat,j<=k/\s=.int .i64 j/\zaI wr wo.heap.size v (((l.take j).map λq=>wt f q i).map some)/\BH wo wr) (λ_ s _=>k-(intOf s).toNat)
     case atStart=>exact⟨0,Nat.zero_le _,rfl,zaI.nil _ _,hbo⟩
     case round=>
      clear hbo;obtain⟨j,hj,rfl,hOj,hbj⟩:=hrel
      by_cases hlj:j<k
      ·obtain⟨q,hx⟩:∃x,l[j]?=some x:=⟨l[j]'(by rw[Hn.o];exact hlj),gE _⟩;obtain⟨b1,off1,c,ea,hck,hcs,hcq⟩:=uLo j q hx;have hq16:=HP16.o q (List.mem_of_getElem? hx);have hc0:=hcs 0 (.int .u16 (q.1:Nat)) (by rw[hcq];rfl);have hc1':=hcs 1 (.int .u16 (q.2:Nat)) (by rw[hcq];rfl);have hc0:=(hbj.cell (zaf hc0)).trans hc0;have hc1':=(hbj.cell (zaf hc1')).trans hc1';rw[Nat.add_zero]at hc0;rw[<-Nat.add_assoc]at hc1';have HS2:Hid (((l.take (j+1)).map λq=>wt f q i).map (some:Rat->Qo)=((l.take j).map λq=>wt f q i).map some++[some (wt f q i)]):=hii (by rw[zaw hx];simp);have HL:Hid ((((l.take j).map λq=>wt f q i).map (some:Rat->Qo)).length<=100000):=hii (by simp;omega);have hxj:(j:Int)<(k:Int):=oM;obtain⟨r,s⟩:=q;have HWt:=hii (λW (hW9:BH wr W)=>zdG g R S f cap r s i W hq16.1 hq16.2 oM (hWo.mono (hbj.trans (hW9.mono hbj.size))) (hEo.mono (hbj.trans (hW9.mono hbj.size))));obtain⟨t,ht⟩:∃t,wt f (r,s) i=t:=⟨_,rfl⟩;rw[ht]at HWt HS2;clear hx hcs hcq hck ht hq16;subst ea;go_upto_region 14 with fail;have hb:=bA wr (.cells #[.int .u16 (r:Nat),.int .u16 (s:Nat)] 115);have r8:Row (wr.alloc (.cells #[.int .u16 (r:Nat),.int .u16 (s:Nat)] 115)) wr.heap.size 115 [.int .u16 (r:Nat),.int .u16 (s:Nat)]:=heap_alloc_new _ _;obtain⟨g8,hg⟩:∃g,g=wr.heap.size:=⟨_,rfl⟩;rw[<-hg]at r8|-;clear hg;generalize wr.alloc (.cells #[.int .u16 (r:Nat),.int .u16 (s:Nat)] 115)=w5 at*;have HWt:=hii (HWt.o w5 hb);have hOj:=hOj.mono hb;have hbj:=bu hbj hb;clear hb hc0 hc1';have d0:=r8.cell (k:=0) sM;have d1:=r8.cell (k:=1) sM;simp only[List.getElem_cons_zero,List.getElem_cons_succ]at d0 d1;go_wp2_with fail;(with_reducible refine HWt.o.mono ?_);rintro e w7⟨hz,hb⟩;obtain⟨J3,ao3,n3,Y3,K3,ap3,m3,Z3,rfl,hV⟩:=hz.rat;have hOj:=hOj.mono hb;have hbj:=bu hbj hb;clear hb hz d0 d1 r8 HWt;go_wp2_with (at_builtin;go_loud (refine zop _ wo wo.heap.size rfl (.tmp 42) (.tmp 50) rfl rfl rfl hOj hbj.size hbj hV HL.o ?_);intro v2 w6 hO2 hb2);rw[<-HS2.o]at hO2;go_roundw
       case rel=>exact⟨j+1,oM,gM,hO2,hb2⟩
       case measure=>exact mM
      ·obtain rfl:j=k:=oM;rw[<-Hn.o,List.take_length]at hOj;obtain⟨ao,c,e9,hu⟩:=hOj.read;subst e9;have hln9:((l.map λq=>wt f q i).map (some:Rat->Qo)).length=l.length:=sM;rw[hln9]at hOj|-;have HP5:=hii (hP.mono hbj);have HHl:=hP.2.1.lts;have hsp:∀b,(Value.slice ao l.length c).ownBlock=some b->gp+1<=b/\b<wr.heap.size/\vA.ownBlock≠some b/\vC.ownBlock≠some b:=λb e=>by
        have h9:=hOj.lt b e;have:=HgB.o;exact⟨oM,h9.2,λe2=>by have:=(HHl.1 b e2).2;omega,λe2=>by have:=(HHl.2.2 b e2).2;omega⟩
       have HLA:Hid (((wA f l i).map (·.map (some:Rat->Qo))).length<=1000000):=hii (by simp[wA];omega);have HbX2:=hii (HbX.o.trans (hbj.mono HbX.o.size));have Hsp:=hii hsp;rw[Hn.o]at Hsp|-;obtain⟨y0,y1,y2⟩:=HP5.o.1.n3;clear hP HHl hsp hOj;go_wp2_with (at_builtin;go_loud (refine zlB wr wr gp rfl (.tmp 54) (.tmp 56) rfl (row:=(l.map λq=>wt f q i).map some) (by rw[List.length_map,List.length_map,Hn.o]) rfl rfl HP5.o hu Hsp.o br HLA.o ?_);intro a3 n3 c3 w6 r3 h3 hb3;clear y0 y1 y2;obtain⟨y0,y1,y2⟩:=r3.n3;have q0:=r3.free 0);have hP5:PL (w6.setCell (aD_ gp 0) (.slice a3 n3 c3)) gp (.slice a3 n3 c3) (.slice aB m cB) vC ((wA f l i).map (·.map some)++[(l.map λq=>wt f q i).map some]) LC:=PL.write r3 HP5.o.2.2 h3 (zaN _ _ _) 0 (.slice a3 n3 c3) rfl;have hb5:Below wb.heap.size wb (w6.setCell (aD_ gp 0) (.slice a3 n3 c3)):=(HbX2.o.trans (hb3.mono oM)).setCell (p:=⟨gp,0,none⟩) hgl (.slice a3 n3 c3);rw[<-zmf]at hP5;go_roundw
       case rel=>exact⟨i+1,_,oM,gM,hP5,hii hb5⟩
       case measure=>exact mM
    ·obtain rfl:i=m:=oM;obtain⟨⟨aA9,nA9,cA9,rfl⟩,-,⟨aC9,nC9,cC9,rfl⟩⟩:=hP.2.1.slices;obtain⟨_,_,_,_,_,_,e1,-,-,-⟩:=hP.2.1.prg;simp only[Value.agg.injEq,Array.mk.injEq,List.cons.injEq,Value.slice.injEq,and_true]at e1;obtain⟨⟨-,e2,-⟩,-,-,e3,-⟩:=e1;have e2':nA9=i:=by rw[e2];simp[wA]
     have e3':nC9=k:=by rw[e3,HLC.o];simp
     rw[e2',e3']at hP;clear e2 e3 e2' e3';obtain⟨y0,y1,y2⟩:=hP.1.n3;have r2':=r2.below HbX.o;obtain⟨p0,p1,p2⟩:=r2'.n3;have q0:=r2'.free 0;have q1:=r2'.free 1;have q2:=r2'.free 2;have Hbw:=hii (hbw.trans (HbX.o.mono hbw.size));have HMS:=hii hP.2.1;have Hg2p:Hid (g2<gp+1):=hii (by have:=r2.lt;omega);have HuB:=hii (uB.mono HbX.o);have HrP:=hii r2';clear hP hli hi r2';go_wp2;refine bodyPost_ret (v:=.agg #[.slice aA9 i cA9,.slice aB i cB,.slice aC9 k cC9]) (by simp[results,Tryz.results113,go_sem,p0,p1,p2]) rfl ⟨?_,((Hbw.o.setCell (p:=⟨g2,0,none⟩) Hg2.o _).setCell (p:=⟨g2,1,none⟩) Hg2.o _).setCell (p:=⟨g2,2,none⟩) Hg2.o _⟩;have hk:zah (λb=>b=g2) wr (((wr.setCell (aD_ g2 0) (.slice aA9 i cA9)).setCell (aD_ g2 1) (.slice aB i cB)).setCell (aD_ g2 2) (.slice aC9 k cC9)):=(((zah.refl wr:zah (λb=>b=g2) wr wr).setCell (p:=⟨g2,0,none⟩) rfl _).setCell (p:=⟨g2,1,none⟩) rfl _).setCell (p:=⟨g2,2,none⟩) rfl _;have hno:=noG3' HrP.o ⟨zaN _ _ _,zaN _ _ _,zaN _ _ _⟩;have hM:=(HMS.o.kept hk hno (λb hb=>by subst hb;exact Hg2p.o)).prg;obtain⟨aA,cA,aB',cB',aC,cC,e1,u1,u2,u3⟩:=hM;simp only[Value.agg.injEq,Array.mk.injEq,List.cons.injEq,Value.slice.injEq,and_true]at e1;obtain⟨⟨rfl,-,rfl⟩,-,rfl,-,rfl⟩:=e1;rw[<-HLC.o];exact⟨_,_,_,_,_,_,rfl,u1,HuB.o.kept hk hno HaB.o,u3⟩
theorem zh4{b:Nat}{E:TypeId}(r:Row W g E [nS_,nS_,nS_])(hc:W.cell? (aD_ b k)=some v)(hv:v≠nS_):b≠g:=by
 intro e;subst e;unfold Row at r
 match k,hc with
 |0,hc=>simp[World.cell?,r]at hc;exact hv hc.symm
 |1,hc=>simp[World.cell?,r]at hc;exact hv hc.symm
 |2,hc=>simp[World.cell?,r]at hc;exact hv hc.symm
 |k+3,hc=>simp[World.cell?,r]at hc
theorem UQ.keptZ{E:TypeId}{l:List Qo}(h:UQ W ao l)(r:Row W g E [nS_,nS_,nS_])(hk:zah (λb=>b=g) W W')(hn:NoU (λb=>b=g) W):UQ W' ao l:=by
 intro i o hi;obtain⟨b,off,n1,a1,l1,c1,n2,a2,l2,c2,e,hf,hq⟩:=h i o hi;have hb:¬b=g:=zh4 r hf.c0 sM;exact⟨b,off,n1,a1,l1,c1,n2,a2,l2,c2,e,⟨hk.cell hf.c0 hb,hk.cell hf.c1 hb,hk.cell hf.c2 hb,hk.cell hf.c3 hb,trivial,trivial,trivial,trivial⟩,hq.keptU hk hn⟩
theorem UM.keptZ{E:TypeId}{l:List (List Qo)}(h:UM W ao l)(r:Row W g E [nS_,nS_,nS_])(hk:zah (λb=>b=g) W W')(hn:NoU (λb=>b=g) W)(hl:∀x∈l,x≠[]):UM W' ao l:=by
 intro i row hi;obtain⟨b,off,ar,cr,e,hc,hq⟩:=h i row hi;have hb:¬b=g:=zh4 r hc (λe2=>by
  simp only[Value.slice.injEq]at e2;exact hl row (List.mem_of_getElem? hi) (List.eq_nil_of_length_eq_zero e2.2.1))
 exact⟨b,off,ar,cr,e,hk.cell hc hb,hq.keptZ r hk hn⟩
theorem zpO{E:TypeId}(r:Row W g E [nS_,nS_,nS_]):NoU (λb=>b=g) W :=
 r.noU (by intro u hu;simp at hu;subst hu;intro z e;cases e)
theorem zo0(W:Wo)(g:Nat)(y0 y1 y2:Vl):zah (λb=>b=g) W (((W.setCell (aD_ g 0) y0).setCell (aD_ g 1) y1).setCell (aD_ g 2) y2) :=
 (((zah.refl W:zah (λb=>b=g) W W).setCell (p:=⟨g,0,none⟩) rfl _).setCell (p:=⟨g,1,none⟩) rfl _).setCell (p:=⟨g,2,none⟩) rfl _
theorem ziN(R S:LN)(f:Rat)(cap:List Rat)(m:Nat)(HW:Hid (WkM R S f cap m))(aR aS aC:OA)(cR cS cC:Nat)(vf:Vl)(w:Wo)(hcR:R.length<=cR)(hcS:S.length<=cS)(uR:zaF w aR R)(uS:zaF w aS S)(hf:zad w vf f)(uC:UQ w aC (cap.map some))(hE:Env w) :
  CP 65 #[.slice aR R.length cR,.slice aS S.length cS,vf,.slice aC cap.length cC] w λe w'=>(∃aA cA aB cB aC' cC',e=.returned (.tuple #[.agg #[.slice aA cap.length cA,.slice aB cap.length cB,.slice aC' (prs R S).length cC'],.int .i64 0])/\UM w' aA ((wA f (prs R S) cap.length).map (·.map some))/\UQ w' aB (cap.map some)/\UQ w' aC' (List.replicate (prs R S).length (some 1)))/\BH w w':=by
 have hbw:=Below.refl w.heap.size w;obtain⟨J1,ao1,n1,Y1,K1,ap1,m1,Z1,rfl⟩:=hf.parts;have hm:=HW.o.hm;have HLc:Hid (cap.length=m):=hii HW.o.lc;have h16:Hid (zaR R/\zaR S):=hii ⟨HW.o.fR.s16 oM,HW.o.fS.s16 oM⟩;have hn9:=HW.o.n9;have Hln:Hid ((prs R S).length=R.length*S.length):=hii (zbX R S);have hR4:=HW.o.fR.len;have hS4:=HW.o.fS.len;obtain⟨p,hp⟩:∃p,R.length*S.length=p:=⟨_,rfl⟩;have hp1:1<=p:=by rw[<-hp];exact Nat.mul_le_mul hR4.1 hS4.1
 have HErr:=HW.o.wk.wq.err;have hpi:(R.length:Int)*(S.length:Int)=(p:Int):=by rw[<-hp];push_cast;rfl
 rw[hp]at hn9 Hln HErr;have HErr:=hii HErr;have HPO:=hii (λg w hW hE=>zir g R S f cap w oM oM (by rw[hp];omega) h16 (by rw[HLc.o];omega) hW hE);have HNW:=hii (λw u1 u2 u3 u4 u5=>zco R S f cap m HW aR aS aC cR cS cC (.agg #[.bool J1,.slice ao1 n1 Y1,.bool K1,.slice ap1 m1 Z1]) w hcR hcS u1 u2 u3 u4 u5);have HRows:Hid (∀x∈((wA f (prs R S) cap.length).map (·.map some)),x≠([]:List Qo)):=hii (by
  intro x hx e;subst e;obtain⟨y,hy,e⟩:=List.mem_map.1 hx;unfold wA at hy;obtain⟨i,_,rfl⟩:=List.mem_map.1 hy;have:=congrArg List.length e;rw[List.length_map,List.length_map,Hln.o]at this;simp at this;omega)
 rw[HLc.o,Hln.o]at HPO|-;rw[HLc.o]at HNW HRows;obtain⟨A,hA⟩:∃A,wA f (prs R S) m=A:=⟨_,rfl⟩;have HAl:Hid (A.length=m):=hii (by rw[<-hA];simp[wA]);rw[hA]at HErr HPO HRows|-;clear hA hp;have hd4:decide ((400:Int)<(p:Int))=false:=decide_eq_false oM;go_enter func65,ntmps65;go_upto_region 1 with fail;obtain⟨wx,hwx,r1,r2,hb⟩:=zaH w 32 105 [.bool J1,.slice ao1 n1 Y1,.bool K1,.slice ap1 m1 Z1] [nS_,nS_,nS_];simp only[List.toArray]at hwx;rw[<-hwx];clear hwx;obtain⟨w1,rfl⟩:=exi wx;obtain⟨g2,hg2⟩:=exi (w.heap.size+1);have Hg2:Hid (w.heap.size<=g2):=hii oM;rw[<-hg2]at r2|-;clear hg2;obtain⟨g1,hg1⟩:=exi (w.heap.size);have Hg1:Hid (w.heap.size<=g1):=hii oM;rw[<-hg1]at r1|-;clear hg1;have hf:=hf.mono hb;have uR:=uR.mono hb;have uS:=uS.mono hb;have uC:=uC.mono hb;have hE:=hE.mono hb;have hbw:=bu hbw hb;clear hb;obtain⟨c0,c1,c2,c3⟩:=r1.n4;go_wp2_with fail;go_fit (HNW.o w1 uR uS hf uC hE);rintro e w2⟨⟨g,rfl,hg,hW⟩,hb⟩;have hE:=hE.mono hb;have r2:=r2.below hb;have hbw:=bu hbw hb;clear hb;clear c0 c1 c2 c3 HNW r1 uR uS uC hf;go_wp2_with fail;go_fit (HPO.o g w2 hW hE);rintro e w3⟨⟨aA,cA,aB,cB,aC',cC',rfl,uA,uB,uC⟩,hb⟩;have hE:=hE.mono hb;have r2:=r2.below hb;have hbw:=bu hbw hb;clear hb;clear HPO hW hd4 hpi;go_upto_region 7 with fail;obtain⟨w4,g12,hw9,hg9,hb,r12⟩:=bxr w3 [.slice aA m cA,.slice aB m cB,.slice aC' p cC'] 105;rw[<-hw9,<-hg9];have Hg12:Hid (w.heap.size<=g12):=hii (by have:=hbw.size;omega);clear hw9 hg9;have uA:=uA.mono hb;have uB:=uB.mono hb;have uC:=uC.mono hb;have hE:=hE.mono hb;have r2:=r2.below hb;have hbw:=bu hbw hb;clear hb;have uC2:UQ w4 aC' ((List.replicate p (1:Rat)).map some):=by rw[List.map_replicate];exact uC
 have HV:=zhj (n:=p) HErr.o HAl.o HLc.o sM aA aB aC' cA cB cC' w4 uA uB uC2 hE;obtain⟨c0,c1,c2⟩:=r12.n3;go_wp2_with fail;(with_reducible refine HV.mono ?_);rintro e w5⟨rfl,hb⟩;have uA:=uA.mono hb;have uB:=uB.mono hb;have uC:=uC.mono hb;have r2:=r2.below hb;have r12:=r12.below hb;have hbw:=bu hbw hb;clear hb;clear HV uC2 c0 c1 c2;obtain⟨c0,c1,c2⟩:=r12.n3;obtain⟨p0,p1,p2⟩:=r2.n3;have q0:=r2.free 0;have q1:=r2.free 1;have q2:=r2.free 2;have Hr2:=hii r2;have Hbw:=hii hbw;have HU:=hii (And.intro uA (And.intro uB uC));clear r2 hbw uA uB uC r12;go_wp2;refine bodyPost_ret (v:=.tuple #[.agg #[.slice aA m cA,.slice aB m cB,.slice aC' p cC'],.int .i64 0]) (by simp[results,Tryz.results65,go_sem,p0,p1,p2]) rfl ⟨⟨_,_,_,_,_,_,rfl,?_⟩,((Hbw.o.setCell (p:=⟨g2,0,none⟩) Hg2.o _).setCell (p:=⟨g2,1,none⟩) Hg2.o _).setCell (p:=⟨g2,2,none⟩) Hg2.o _⟩;have hk:=zo0 w5 g2 (.slice aA m cA) (.slice aB m cB) (.slice aC' p cC');have hn:=zpO Hr2.o;exact⟨HU.o.1.keptZ Hr2.o hk hn HRows.o,HU.o.2.1.keptZ Hr2.o hk hn,HU.o.2.2.keptZ Hr2.o hk hn⟩
end Go.Proofs.YtfgffkmddanjjaaGreatDoor
