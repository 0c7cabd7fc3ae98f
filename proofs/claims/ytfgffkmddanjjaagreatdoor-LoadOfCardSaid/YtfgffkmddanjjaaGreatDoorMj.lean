/-
  The reference: strategies.
-/
import Derived.Test.YtfgffkmddanjjaaGreatDoorMe
set_option linter.unusedVariables false
set_option linter.unusedSimpArgs false
set_option maxRecDepth 100000
set_option maxHeartbeats 25600000
namespace Go.Proofs.YtfgffkmddanjjaaGreatDoor
open _root_.Go.Proofs.Tryz
open Go.RowKit
variable {J1:Bool} {Y1 Z1 m1 n1:Nat} {ao1 ap1:OA} {v:Vl}
def ShB(W:Wo)(v:Vl)(a:(Nat×Nat)×Rat):Prop:=∃(n:Nat)(c:List Vl),v=.slice (sD n 0) 1 1/\c.length=6/\(∀(j:Nat)(u:Vl),c[j]?=some u->W.cell? (aD_ n j)=some u)/\(∀u∈c,u.oneCell'=true)/\(∀u∈c,zaM u)/\zaD W c a
theorem ShB.mono{W W':Wo}{a:(Nat×Nat)×Rat}(h:ShB W v a)(hb:BH W W'):ShB W' v a:=by
 obtain⟨n,c,e,h1,h2,h3,h4,h5⟩:=h;exact⟨n,c,e,h1,λj u hu=>(hb.cell (zaf (h2 j u hu))).trans (h2 j u hu),h3,h4,zao.below h5 hb⟩
theorem zje(W:Wo){r s:Nat}{K1:Bool}{x:Rat}(h:zad W (qA J1 ao1 n1 Y1 K1 ap1 m1 Z1) x):ShB (W.alloc (.cells #[.int .u16 (r:Nat),.int .u16 (s:Nat),.bool J1,.slice ao1 n1 Y1,.bool K1,.slice ap1 m1 Z1] 59)) (.slice (some ⟨W.heap.size,0,none⟩) 1 1) ((r,s),x):=by
 have hb:=bA W (.cells #[.int .u16 (r:Nat),.int .u16 (s:Nat),.bool J1,.slice ao1 n1 Y1,.bool K1,.slice ap1 m1 Z1] 59);have hrow:Row (W.alloc (.cells #[.int .u16 (r:Nat),.int .u16 (s:Nat),.bool J1,.slice ao1 n1 Y1,.bool K1,.slice ap1 m1 Z1] 59)) W.heap.size 59 [.int .u16 (r:Nat),.int .u16 (s:Nat),.bool J1,.slice ao1 n1 Y1,.bool K1,.slice ap1 m1 Z1]:=heap_alloc_new _ _;refine⟨W.heap.size,[.int .u16 (r:Nat),.int .u16 (s:Nat),.bool J1,.slice ao1 n1 Y1,.bool K1,.slice ap1 m1 Z1],rfl,rfl,λj u hu=>?_,zoN,zlW,_,_,_,_,_,_,_,_,rfl,h.mono hb⟩;obtain⟨hj,rfl⟩:=List.getElem?_eq_some_iff.1 hu;exact hrow.cell hj
theorem zeo(w W:Wo)(ty:TypeId)(B:Nat)(v s:Vl)(l:List ((Nat×Nat)×Rat))(a:(Nat×Nat)×Rat)(hown:za6 59 6 zaD w B v l)(hB:B<=w.heap.size)(hb:Below B W w)(hs:ShB w s a)(hl:l.length<=1000000) :
  ∃v' w',(Builtin.append_ #[37,37] ty #[v,s]).run Tryz.prog w=.ok v' w'/\za6 59 6 zaD w' B v' (l++[a])/\Below B W w':=by
 obtain⟨n,c,rfl,h1,h2,h3,h4,h5⟩:=hs;obtain⟨v',w',k1,k2,k3,_,_⟩:=zdK zaD zao Tryz.slice37 Tryz.info59 rfl dM dM zlW w W ty B v l a n 1 c hown hB hb h1 h2 h3 h4 h5 hl;exact⟨v',w',k1,k2,k3⟩
theorem za6.base{T:TypeId}{k:Nat}{α:Type}{R:Wo->List Vl->α->Prop}{w:Wo}{B B':Nat}{l:List α}(h:za6 T k R w B' v l)(hB:B<=B'):za6 T k R w B v l:=by
 obtain⟨els,h1,h2,h3,h4⟩:=h;refine⟨els,h1,h2,⟨h3.1,h3.2.imp _root_.id ?_⟩,h4⟩;exact eE
theorem zfU(R S l:LN)(aR aS aL aC:OA)(cR cS cL nC cC:Nat){K1:Bool}(w:Wo)(hl:l.length<=10)(hR:1<=R.length/\R.length<=400)(hS:1<=S.length/\S.length<=400)(uR:zaF w aR R)(uS:zaF w aS S)(uL:ByU w aL l)(H8:Hid (∀x∈l,x<256))(hE:Env w) :
  CP 17 #[.agg #[.slice aR R.length cR,.slice aS S.length cS,.bool J1,.slice ao1 n1 Y1,.bool K1,.slice ap1 m1 Z1,.slice aC nC cC],.slice aL l.length cL] w λe w'=>(∃v,e=.returned v/\za6 59 6 zaD w' w.heap.size v (zfx R S l))/\BH w w':=by
 have hbw:=Below.refl w.heap.size w;have HTl:Hid (∀k,zdb (l.take k)<=255*k):=hii (zgy l λx hx=>by have:=H8.o x hx;omega);have HTk:Hid (∀(k x:Nat),l[k]?=some x->zdb (l.take (k+1))=zdb (l.take k)+x):=hii λk x h=>zdH h
 have HSt:Hid (zfx R S l=if zdb l=0 then [((R.getD 0 0,S.getD 0 0),1)]else zb4 R S l (zdb l) l.length):=hii rfl;have HShr:Hid (∀(T i:Nat),zb4 R S l T (i+1)=zb4 R S l T i++[((R.getD (i % (R.length*S.length) / S.length) 0,S.getD (i % (R.length*S.length) % S.length) 0),Rat.divInt (l.getD i 0:Nat) (T:Nat))]):=hii λT i=>zek R S l T i
 obtain⟨b0,o0,eR,cR0⟩:=uR 0 _ (gE oM);obtain⟨b1,o1,eS,cS0⟩:=uS 0 _ (gE oM);subst eR;subst eS;clear cR0 cS0;obtain⟨nR,hnR⟩:∃m,R.length=m:=⟨_,rfl⟩;obtain⟨nS,hnS⟩:∃m,S.length=m:=⟨_,rfl⟩;obtain⟨nL,hnL⟩:∃m,l.length=m:=⟨_,rfl⟩;have HnR:=hii hnR;have HnS:=hii hnS;have HnL:=hii hnL;rw[hnR]at hR HShr|-;rw[hnS]at hS HShr|-;rw[hnL]at hl HSt|-;have HTL:Hid (zdb (l.take nL)=zdb l):=hii (by rw[<-hnL,List.take_length]);clear hnR hnS hnL;go_enter func17,ntmps17;go_upto_region 1 with fail;obtain⟨w1,g2,hw9,hg9,hb,r2⟩:=bxr w [.slice (sD b0 o0) nR cR,.slice (sD b1 o1) nS cS,.bool J1,.slice ao1 n1 Y1,.bool K1,.slice ap1 m1 Z1,.slice aC nC cC] 35;rw[<-hw9,<-hg9];have Hg2:Hid (w.heap.size<=g2):=hii (by have:=hbw.size;omega);clear hw9 hg9;have uR:=uR.mono hb;have uS:=uS.mono hb;have uL:=uL.mono hb;have hE:=hE.mono hb;have hbw:=bu hbw hb;clear hb;go_wp2_with fail;go_loopw [5,6] (λt s wr=>∃i T:Nat,i<=nL/\s=.int .i64 i/\t=.int .i64 (T:Nat)/\T<=255*i/\Hid (T=zdb (l.take i))/\w1=wr) (λ_ s _=>nL-(intOf s).toNat)
 case atStart=>exact⟨0,0,Nat.zero_le _,rfl,rfl,nl,hii rfl,tM⟩
 case round=>
  obtain⟨i,T,hi,rfl,rfl,hT,HT,rfl⟩:=hrel
  by_cases hlt:i<nL
  ·obtain⟨x,hx⟩:∃x,l[i]?=some x:=⟨l[i]'(by rw[HnL.o];exact hlt),gE _⟩;have hx8:=H8.o x (List.mem_of_getElem? hx);have HT2:Hid (T+x=zdb (l.take (i+1))):=hii (by rw[HTk.o i x hx,HT.o]);obtain⟨bL,oL,eL,hc⟩:=uL i x hx;have hT2:T+x<=255*(i+1):=oM;have hil:(i:Int)<(nL:Int):=oM;have hi10:(i:Int)<10:=oM;subst eL;clear hx;go_wp2;go_roundw
   case rel=>exact⟨i+1,T+x,oM,gM,gM,hT2,HT2,tM⟩
   case measure=>exact mM
  ·have hil:¬(i:Int)<(nL:Int):=oM;obtain rfl:i=nL:=oM;have HT2:Hid (zdb l=T):=hii (by rw[HT.o,HTL.o]);rw[HT2.o]at HSt;clear HT hlt
   by_cases hT0:T=0
   ·subst hT0;have HSt:Hid (zfx R S l=[((R.getD 0 0,S.getD 0 0),1)]):=hii (by rw[HSt.o,if_pos rfl]);clear HShr;have H0:Hid (((0:Nat):Int)=0):=hii rfl;go_upto_block 2 with fail;go_cut [7] (λs7 wc=>s7=nS_/\w1=wc)
    case first=>
     go_wp2_with fail;go_loopw [7,8] (λv s wr=>v=nS_/\s=.int .i64 0/\w1=wr) (λ_ s _=>0)
     case atStart=>exact⟨rfl,rfl,tM⟩
     case round=>
      obtain⟨rfl,rfl,rfl⟩:=hrel
      by_cases hL0:0<i
      ·have hL1:(0:Int)<(i:Int):=oM;go_wp2;go_meet;exact⟨rfl,rfl⟩
      ·have hL1:¬(0:Int)<(i:Int):=oM;go_wp2;go_meet;exact⟨rfl,rfl⟩
    case rest=>
     obtain⟨rfl,rfl⟩:=hcut;have hR1:(0:Int)<(nR:Int):=oM;have hS1:(0:Int)<(nS:Int):=oM;have hR0:0<nR:=oM;have hS0:0<nS:=oM;obtain⟨x0,hx0⟩:∃x,R[0]?=some x:=⟨R[0]'(by rw[HnR.o];omega),gE _⟩;obtain⟨y0,hy0⟩:∃x,S[0]?=some x:=⟨S[0]'(by rw[HnS.o];omega),gE _⟩;obtain⟨b0',o0',e0',hcx⟩:=uR 0 x0 hx0;obtain⟨b1',o1',e1',hcy⟩:=uS 0 y0 hy0
     cases e0'
     cases e1'
     rw[Nat.add_zero]at hcx hcy;have HSt9:Hid (zfx R S l=[((x0,y0),1)]):=hii (by rw[HSt.o,List.getD_eq_getElem?_getD,List.getD_eq_getElem?_getD,hx0,hy0];rfl);clear hx0 hy0 HSt;go_upto_region 14 with fail;refine zbC srB (wx:=w1) [vf nS_,vf (pT g2 0),vf (.slice (sD b0 o0) nR cR),vf (pT b0 o0),vf (.int .u16 (x0:Nat)),vf (pT g2 1),vf (.slice (sD b1 o1) nS cS),vf (pT b1 o1),vf (.int .u16 (y0:Nat)),(λ_ _=>True),(λ_ _=>True),(λ_ _=>True),(λ_ _=>True),(λ_ _=>True)] [some 87,some 88,some 89,some 90,some 91,some 92,some 93,some 94,some 95,some 96,some 97,some 98,some 99,some 7] [87,88,89,90,91,92,93,94,95,96,97,98,99,7] [9,10,11,12,13] [[0,1,2,3],[0,1,2,3,4],[0,1,2,3,4],[0,1,2,3,4],[0,1],[0,1,2,3,4],[0,1,2,3,4],[0,1,2,3,4],[0,1],[0],[1],[2],[3],[4]] [none,none,none,none,none,none,none,none,none,none,none,none,none,none] (λp T W=>match p with|0=>BH w1 W/\T 7=nS_|1=>(BH w1 W/\zad W (T 96) 1)/\T 7=nS_|2=>(BH w1 W/\∃J2 ao2 n2 Y2 K2 ap2 m2 Z2,T 97=.agg #[.int .u16 (x0:Nat),.int .u16 (y0:Nat),.bool J2,.slice ao2 n2 Y2,.bool K2,.slice ap2 m2 Z2]/\zad W (qA J2 ao2 n2 Y2 K2 ap2 m2 Z2) 1)/\T 7=nS_|3=>(BH w1 W/\ShB W (T 98) ((x0,y0),1))/\T 7=nS_|4=>(BH w1 W/\za6 59 6 zaD W w1.heap.size (T 99) ([]++[((x0,y0),1)]))/\T 7=nS_|_+5=>(BH w1 W/\za6 59 6 zaD W w1.heap.size (T 99) ([]++[((x0,y0),1)]))/\T 7=T 99) (by kernel_rfl) (by kernel_rfl) (by kernel_rfl) (by kernel_rfl) (of_decide_eq_true (by kernel_rfl)) (of_decide_eq_true (by kernel_rfl)) (by kernel_rfl) (by kernel_rfl) (⟨br.drew,rfl⟩) (λp T W W' h hb=>match p,h with|0,h=>⟨bu h.1 hb,h.2⟩|1,h=>⟨⟨bu h.1.1 hb,h.1.2.mono hb⟩,h.2⟩|2,h=>⟨⟨bu h.1.1 hb,h.1.2.elim λa h=>h.elim λb h=>h.elim λc h=>h.elim λd h=>h.elim λe h=>h.elim λf h=>h.elim λg h=>h.elim λi h=>⟨a,b,c,d,e,f,g,i,h.1,h.2.mono hb⟩⟩,h.2⟩|3,h=>⟨⟨bu h.1.1 hb,ShB.mono h.1.2 hb⟩,h.2⟩|4,h=>⟨⟨bu h.1.1 hb,h.1.2.mono zao hb⟩,h.2⟩|_+5,h=>⟨⟨bu h.1.1 hb,h.1.2.mono zao hb⟩,h.2⟩) (λp T T' W _ hT h=>match p,h with|0,h=>(by have e4:T' 7=T 7:=hT 4 dM;have h:BH w1 W/\T 7=nS_:=h;show BH w1 W/\T' 7=nS_;rw[e4];exact h)|1,h=>(by have e0:T' 96=T 96:=hT 0 dM;have e4:T' 7=T 7:=hT 4 dM;have h:(BH w1 W/\zad W (T 96) 1)/\T 7=nS_:=h;show(BH w1 W/\zad W (T' 96) 1)/\T' 7=nS_;rw[e0,e4];exact h)|2,h=>(by have e1:T' 97=T 97:=hT 1 dM;have e4:T' 7=T 7:=hT 4 dM;have h:(BH w1 W/\∃J2 ao2 n2 Y2 K2 ap2 m2 Z2,T 97=.agg #[.int .u16 (x0:Nat),.int .u16 (y0:Nat),.bool J2,.slice ao2 n2 Y2,.bool K2,.slice ap2 m2 Z2]/\zad W (qA J2 ao2 n2 Y2 K2 ap2 m2 Z2) 1)/\T 7=nS_:=h;show(BH w1 W/\∃J2 ao2 n2 Y2 K2 ap2 m2 Z2,T' 97=.agg #[.int .u16 (x0:Nat),.int .u16 (y0:Nat),.bool J2,.slice ao2 n2 Y2,.bool K2,.slice ap2 m2 Z2]/\zad W (qA J2 ao2 n2 Y2 K2 ap2 m2 Z2) 1)/\T' 7=nS_;rw[e1,e4];exact h)|3,h=>(by have e2:T' 98=T 98:=hT 2 dM;have e4:T' 7=T 7:=hT 4 dM;have h:(BH w1 W/\ShB W (T 98) ((x0,y0),1))/\T 7=nS_:=h;show(BH w1 W/\ShB W (T' 98) ((x0,y0),1))/\T' 7=nS_;rw[e2,e4];exact h)|4,h=>(by have e3:T' 99=T 99:=hT 3 dM;have e4:T' 7=T 7:=hT 4 dM;have h:(BH w1 W/\za6 59 6 zaD W w1.heap.size (T 99) ([]++[((x0,y0),1)]))/\T 7=nS_:=h;show(BH w1 W/\za6 59 6 zaD W w1.heap.size (T' 99) ([]++[((x0,y0),1)]))/\T' 7=nS_;rw[e3,e4];exact h)|_+5,h=>(by have e3:T' 99=T 99:=hT 3 dM;have e4:T' 7=T 7:=hT 4 dM;have h:(BH w1 W/\za6 59 6 zaD W w1.heap.size (T 99) ([]++[((x0,y0),1)]))/\T 7=T 99:=h;show(BH w1 W/\za6 59 6 zaD W w1.heap.size (T' 99) ([]++[((x0,y0),1)]))/\T' 7=T' 99;rw[e3,e4];exact h)) br ⟨zac _ _,zac _ _,zac _ _,zac _ _,zac _ _,zac _ _,zac _ _,zac _ _,zac _ _,(λ_ _ _ h _=>h),(λ_ _ _ h _=>h),(λ_ _ _ h _=>h),(λ_ _ _ h _=>h),(λ_ _ _ h _=>h),trivial⟩ ⟨?s0,?s1,?s2,?s3,?s4,?s5,?s6,?s7,?s8,?s9,?s10,?s11,?s12,?s13,trivial⟩ ?he
     case' s0|s1|s2|s3|s4|s5|s6|s7|s8|s9|s10|s11|s12|s13=>
      rintro T W p hb hp hS hA K hK
     case' s1|s5=>
      clear hS;simp only[sA]at hK|-
     case' s2=>
      clear hS;have e1:T 88=_:=hA.1 rfl;obtain⟨k0,k1,k2,k3,k4,k5,k6⟩:=(r2.below hb).n7;simp only[sA,e1]at hK|-
     case' s3=>
      clear hS;have e2:T 89=_:=hA.1 rfl;simp only[sA,e2]at hK|-
     case' s4=>
      clear hS;have e3:T 90=_:=hA.1 rfl;have h0:=(hb.cell (zaf hcx)).trans hcx;simp only[sA,e3]at hK|-
     case' s6=>
      clear hS;have e5:T 92=_:=hA.1 rfl;obtain⟨k0,k1,k2,k3,k4,k5,k6⟩:=(r2.below hb).n7;simp only[sA,e5]at hK|-
     case' s7=>
      clear hS;have e6:T 93=_:=hA.1 rfl;simp only[sA,e6]at hK|-
     case' s8=>
      clear hS;have e7:T 94=_:=hA.1 rfl;have h0:=(hb.cell (zaf hcy)).trans hcy;simp only[sA,e7]at hK|-
     case s1|s2|s3|s4|s5|s6|s7|s8=>
      exact cE
     case s0=>
      have hp:p∈[0,1,2,3]:=hp;simp only[List.mem_cons,List.not_mem_nil,or_false]at hp;rcases hp with rfl|rfl|rfl|rfl
      ·have hS:BH w1 W/\T 7=nS_:=hS;have eT:=hS.2;exact dP
      ·have hS:(BH w1 W/\zad W (T 96) 1)/\T 7=nS_:=hS;have eT:=hS.2;exact dP
      ·have hS:(BH w1 W/\∃J2 ao2 n2 Y2 K2 ap2 m2 Z2,T 97=.agg #[.int .u16 (x0:Nat),.int .u16 (y0:Nat),.bool J2,.slice ao2 n2 Y2,.bool K2,.slice ap2 m2 Z2]/\zad W (qA J2 ao2 n2 Y2 K2 ap2 m2 Z2) 1)/\T 7=nS_:=hS;have eT:=hS.2;exact dP
      ·have hS:(BH w1 W/\ShB W (T 98) ((x0,y0),1))/\T 7=nS_:=hS;have eT:=hS.2;exact dP
     case s9=>
      obtain rfl:p=0:=by simpa using hp
      have hS:BH w1 W/\T 7=nS_:=hS;have eT:=hS.2;simp only[sA,eT]at hK|-;have HK:=hii hK;clear hK hA;refine wO rfl ?_;go_simp;go_fit (zbT 1 W dM dM (hE.mono hb));rintro e w2⟨hz,hb1⟩;obtain⟨J2,ao2,n2,Y2,K2,ap2,m2,Z2,rfl,hV2⟩:=hz.rat;have hV2:zad w2 (qA J2 ao2 n2 Y2 K2 ap2 m2 Z2) 1:=hV2
      try dsimp only
      exact HK.o _ _ ⟨λh=>absurd rfl h,λ_=>⟨⟨⟨bu hS.1 hb1,hV2⟩,hS.2⟩,hb1.mono hb.size⟩⟩ (trivial)
     case s10=>
      obtain rfl:p=1:=by simpa using hp
      have hS:(BH w1 W/\zad W (T 96) 1)/\T 7=nS_:=hS;have e4:T 91=_:=hA.1 rfl;have e8:T 95=_:=hA.2.1 rfl;have hq:=hS.1.2;obtain⟨J2,ao2,n2,Y2,K2,ap2,m2,Z2,eQ⟩:=hq.parts;rw[eQ]at hq;have eT:=hS.2;simp only[sA,e4,e8,eQ,eT]at hK|-;have HK:=hii hK;clear hK hA;refine wO rfl ?_;go_simp;exact HK.o _ _ ⟨λh=>absurd rfl h,λ_=>⟨⟨⟨hS.1.1,_,_,_,_,_,_,_,_,rfl,hq⟩,hS.2⟩,br⟩⟩ (trivial)
     case s11=>
      obtain rfl:p=2:=by simpa using hp
      have hS:(BH w1 W/\∃J2 ao2 n2 Y2 K2 ap2 m2 Z2,T 97=.agg #[.int .u16 (x0:Nat),.int .u16 (y0:Nat),.bool J2,.slice ao2 n2 Y2,.bool K2,.slice ap2 m2 Z2]/\zad W (qA J2 ao2 n2 Y2 K2 ap2 m2 Z2) 1)/\T 7=nS_:=hS;obtain⟨J2,ao2,n2,Y2,K2,ap2,m2,Z2,eQ,hq⟩:=hS.1.2;have eT:=hS.2;simp only[sA,eQ,eT]at hK|-;have HK:=hii hK;clear hK hA;refine wO rfl ?_;go_simp;obtain⟨w2,hw2⟩:∃w2,w2=W.alloc (.cells #[.int .u16 (x0:Nat),.int .u16 (y0:Nat),.bool J2,.slice ao2 n2 Y2,.bool K2,.slice ap2 m2 Z2] 59):=⟨_,rfl⟩;have hb1:BH W w2:=by rw[hw2];exact bA W _
      have hsh:=zje W (r:=x0) (s:=y0) hq;rw[<-hw2]at hsh;rw[<-hw2]
      try dsimp only
      exact HK.o _ _ ⟨λh=>absurd rfl h,λ_=>⟨⟨⟨bu hS.1.1 hb1,hsh⟩,hS.2⟩,hb1.mono hb.size⟩⟩ (trivial)
     case s12=>
      obtain rfl:p=3:=by simpa using hp
      have hS:(BH w1 W/\ShB W (T 98) ((x0,y0),1))/\T 7=nS_:=hS;have e0:T 87=_:=hA.1 rfl;simp only[sA,e0]at hK|-;have HK:=hii hK;clear hK hA;have hq:=hS.1.2;obtain⟨v9,w9,hr,ho,hbb⟩:=zeo W W 37 w1.heap.size nS_ _ [] ((x0,y0),1) (za6.nil _ _) hb.size br hq sM;refine wO rfl ?_;refine zat _ _ rfl rfl rfl hr ?_;simp only[Act.put,List.setIfInBounds_toArray,List.set_cons_zero,List.set_cons_succ];exact HK.o _ _ ⟨λh=>absurd rfl h,λ_=>⟨⟨⟨hb.trans hbb,ho⟩,hS.2⟩,hbb⟩⟩ (trivial)
     case s13=>
      obtain rfl:p=4:=by simpa using hp
      have hS:(BH w1 W/\za6 59 6 zaD W w1.heap.size (T 99) ([]++[((x0,y0),1)]))/\T 7=nS_:=hS;have e0:T 87=_:=hA.2.2.1 rfl;have e1:T 88=_:=hA.2.2.2.1 rfl;have e2:T 89=_:=hA.2.2.2.2.1 rfl;have e3:T 90=_:=hA.2.2.2.2.2.1 rfl;have e4:T 91=_:=hA.2.2.2.2.2.2.1 rfl;have e5:T 92=_:=hA.2.2.2.2.2.2.2.1 rfl;have e6:T 93=_:=hA.2.2.2.2.2.2.2.2.1 rfl;have e7:T 94=_:=hA.2.2.2.2.2.2.2.2.2.1 rfl;have e8:T 95=_:=hA.2.2.2.2.2.2.2.2.2.2.1 rfl;have hS2:=hS.1;have eT:=hS.2;simp only[sA,e0,e1,e2,e3,e4,e5,e6,e7,e8,eT]at hK|-;have HK:=hii hK;clear hK hA;refine wO rfl ?_;go_simp;exact HK.o (T 99) _ ⟨λh=>absurd rfl h,λ_=>⟨⟨hS2,rfl⟩,br⟩⟩ (trivial)
     case he=>
      rintro T W hb hS hA;have hS:(BH w1 W/\za6 59 6 zaD W w1.heap.size (T 99) ([]++[((x0,y0),1)]))/\T 7=T 99:=hS;simp only[sA];obtain⟨⟨Hb9,hO9⟩,e7⟩:=hS;rw[<-e7]at hO9;obtain⟨v9,hv9⟩:∃v,T 7=v:=⟨_,rfl⟩;rw[hv9]at hO9|-;clear hA e7 hv9;go_wp2;go_ret;exact⟨⟨_,rfl,by rw[HSt9.o];exact hO9.base hbw.size⟩,bu hbw Hb9⟩
   ·have HSt:Hid (zfx R S l=zb4 R S l T i):=hii (by rw[HSt.o,if_neg hT0]);have hT1:(0:Int)<(T:Int):=oM;have hTz:((T:Int)==0)=false:=by simp;omega
    have hb1:=Below.refl w1.heap.size w1;obtain⟨nL,rfl⟩:∃n,n=i:=⟨_,rfl⟩;obtain⟨P,hP⟩:∃P,nR*nS=P:=⟨_,rfl⟩;have HP:=hii hP;rw[hP]at HShr;have hpm:(nR:Int)*(nS:Int)=(P:Int):=by rw[<-hP];push_cast;rfl
    have hPl:P<=160000:=by rw[<-hP];exact Nat.mul_le_mul hR.2 hS.2
    have hP1:1<=P:=by rw[<-hP];exact Nat.mul_le_mul hR.1 hS.1
    have hPz:((P:Int)==0)=false:=by simp;omega
    have hSz:((nS:Int)==0)=false:=by simp;omega
    have hPn:¬(P:Int)=0:=oM;have hSn:¬(nS:Int)=0:=oM;have hPn0:¬P=0:=oM;have hSn0:¬nS=0:=oM;clear hP hT0;go_wp2_with fail;go_loopw [7,8] (λv s wr=>∃i:Nat,i<=nL/\s=.int .i64 i/\za6 59 6 zaD wr w1.heap.size v (zb4 R S l T i)/\Hid (BH w1 wr)) (λ_ s _=>nL-(intOf s).toNat)
    case atStart=>exact⟨0,Nat.zero_le _,rfl,za6.nil _ _,hii hb1⟩
    case round=>
     clear hb1;obtain⟨i,hi,rfl,hO,Hb1⟩:=hrel;have hOr:=hO;obtain⟨aO,cO,eO,-,-⟩:=hOr.read;obtain⟨nO,hnO⟩:∃m,(zb4 R S l T i).length=m:=⟨_,rfl⟩;rw[hnO]at eO;clear hnO;obtain⟨L,hL⟩:∃L,zb4 R S l T i=L:=⟨_,rfl⟩;have HLl:Hid (L.length<=1000000):=hii (by rw[<-hL];unfold zb4;simp;omega)
     by_cases hlt:i<nL
     ·have hil:(i:Int)<(nL:Int):=oM;have hi10:(i:Int)<10:=oM;obtain⟨x,hx⟩:∃x,l[i]?=some x:=⟨l[i]'(by rw[HnL.o];exact hlt),gE _⟩;have hx8:=H8.o x (List.mem_of_getElem? hx);have HL2:=HShr.o T i;rw[show l.getD i 0=x by rw[List.getD_eq_getElem?_getD,hx];rfl,hL]at HL2;obtain⟨a,ha⟩:∃a,i % P=a:=⟨_,rfl⟩;have haP:a<P:=by rw[<-ha];exact Nat.mod_lt _ hP1
      have htm:Int.tmod (i:Int) (P:Int)=(a:Int):=by rw[<-ha];rfl
      rw[ha]at HL2;obtain⟨q,hq⟩:∃q,a / nS=q:=⟨_,rfl⟩;obtain⟨t,ht⟩:∃t,a % nS=t:=⟨_,rfl⟩;have hqR:q<nR:=by rw[<-hq];exact Nat.div_lt_of_lt_mul (by rw[Nat.mul_comm,HP.o];exact haP)
      have htS:t<nS:=by rw[<-ht];exact Nat.mod_lt _ hS.1
      have htd:Int.tdiv (a:Int) (nS:Int)=(q:Int):=by rw[<-hq];rfl
      have hwq:IntKind.i64.wrap (q:Int)=(q:Int):=by unfold IntKind.wrap;simp[IntKind.bits,IntKind.signed];omega
      have htm2:Int.tmod (a:Int) (nS:Int)=(t:Int):=by rw[<-ht];rfl
      rw[hq,ht]at HL2;obtain⟨x0,hx0⟩:∃x,R[q]?=some x:=⟨R[q]'(by rw[HnR.o];exact hqR),gE _⟩;obtain⟨y0,hy0⟩:∃x,S[t]?=some x:=⟨S[t]'(by rw[HnS.o];exact htS),gE _⟩;obtain⟨b0',o0',e0',hcx⟩:=uR q x0 hx0;obtain⟨b1',o1',e1',hcy⟩:=uS t y0 hy0
      cases e0'
      cases e1'
      have HL2:Hid (zb4 R S l T (i+1)=L++[((x0,y0),Rat.divInt (x:Nat) (T:Nat))]):=hii (by rw[HL2,List.getD_eq_getElem?_getD,List.getD_eq_getElem?_getD,hx0,hy0];rfl);rw[hL]at hO;have uLr:=uL.mono Hb1.o;obtain⟨bL,oL,eL,hc⟩:=uLr i x hx;subst eL;subst eO;have hqi:(q:Int)<(nR:Int):=oM;have hti:(t:Int)<(nS:Int):=oM;have hEr:=hE.mono Hb1.o;clear hx0 hy0 hx ha hq ht hL uLr hOr;go_wp2_with fail;go_fit (zes (x:Int) (T:Int) wr oM oM oM oM (hii oM) hEr);rintro e wd⟨hz,hb⟩;obtain⟨J2,ao2,n2,Y2,K2,ap2,m2,Z2,rfl,hV⟩:=hz.rat;have hO:=hO.mono zao hb;have Hb1:=hii (Below.step Hb1.o hb nl);clear hb hz hc hEr;go_upto_region 11 with fail;have hbw0:=hbw;have hbw:=Hb1.o;obtain⟨we,g9,hw9,hg9,hb,r9⟩:=bxr wd [.bool J2,.slice ao2 n2 Y2,.bool K2,.slice ap2 m2 Z2] 32;rw[<-hw9,<-hg9];have Hg9:Hid (w1.heap.size<=g9):=hii (by have:=hbw.size;omega);clear hw9 hg9;have hV:=hV.mono hb;have hO:=hO.mono zao hb;have Hb1:=hii (Below.step Hb1.o hb nl);clear hb hbw;have hbw:=hbw0;clear hbw0;have r2k:=r2.below Hb1.o;obtain⟨k0,k1,k2,k3,k4,k5,k6⟩:=r2k.n7;have wz1:=hP1;go_upto_region 12 with fail;clear k0 k1 k2 k3 k4 k5 k6 r2k wz1;have HO:=hii hO;clear hO;obtain⟨vO,hvO⟩:∃v:Vl,v=.slice aO nO cO:=⟨_,rfl⟩;obtain⟨TT,hTT⟩:∃n,n=T:=⟨_,rfl⟩;rw[<-hTT]at HL2 hV;rw[<-hvO]at HO|-;clear hvO;refine zbC srB (wx:=w1) [vf vO,vf (pT g2 0),vf (.slice (sD b0 o0) nR cR),vf (.int .i64 (a:Nat)),vf (pT g2 1),vf (.slice (sD b1 o1) nS cS),vf (.int .i64 (nS:Nat)),vf (.int .i64 (q:Nat)),vf (.pointer (some ⟨b0,o0+q,none⟩)),vf (.int .u16 (x0:Nat)),vf (pT g2 1),vf (.slice (sD b1 o1) nS cS),vf (.int .i64 (a:Nat)),vf (pT g2 1),vf (.slice (sD b1 o1) nS cS),vf (.int .i64 (nS:Nat)),vf (.int .i64 (t:Nat)),vf (.pointer (some ⟨b1,o1+t,none⟩)),vf (.int .u16 (y0:Nat)),(λ_ _=>True),(λ_ _=>True),(λ_ _=>True),(λ_ _=>True),(λ_ _=>True)] [some 62,some 63,some 64,some 65,some 66,some 67,some 68,some 69,some 70,some 71,some 72,some 73,some 74,some 75,some 76,some 77,some 78,some 79,some 80,some 81,some 82,some 83,some 84,some 7] [62,63,64,65,66,67,68,69,70,71,72,73,74,75,76,77,78,79,80,81,82,83,84,7] [19,20,21,22,23] [[0,1,2,3],[0,1,2,3,4],[0,1,2,3,4],[0,1,2,3,4],[0,1,2,3,4],[0,1,2,3,4],[0,1,2,3,4],[0,1,2,3,4],[0,1,2,3,4],[0,1],[0,1,2,3,4],[0,1,2,3,4],[0,1,2,3,4],[0,1,2,3,4],[0,1,2,3,4],[0,1,2,3,4],[0,1,2,3,4],[0,1,2,3,4],[0,1],[0],[1],[2],[3],[4]] [none,none,none,none,none,none,none,none,none,none,none,none,none,none,none,none,none,none,none,none,none,none,none,none] (λp T W=>match p with|0=>BH we W/\T 7=vO|1=>(BH we W/\T 81=.agg #[.bool J2,.slice ao2 n2 Y2,.bool K2,.slice ap2 m2 Z2])/\T 7=vO|2=>(BH we W/\T 82=.agg #[.int .u16 (x0:Nat),.int .u16 (y0:Nat),.bool J2,.slice ao2 n2 Y2,.bool K2,.slice ap2 m2 Z2])/\T 7=vO|3=>(BH we W/\ShB W (T 83) ((x0,y0),Rat.divInt (x:Nat) (TT:Nat)))/\T 7=vO|4=>(BH w1 W/\za6 59 6 zaD W w1.heap.size (T 84) (L++[((x0,y0),Rat.divInt (x:Nat) (TT:Nat))]))/\T 7=vO|_+5=>(BH w1 W/\za6 59 6 zaD W w1.heap.size (T 84) (L++[((x0,y0),Rat.divInt (x:Nat) (TT:Nat))]))/\T 7=T 84) (by kernel_rfl) (by kernel_rfl) (by kernel_rfl) (by kernel_rfl) (of_decide_eq_true (by kernel_rfl)) (of_decide_eq_true (by kernel_rfl)) (by kernel_rfl) (by kernel_rfl) (⟨br.drew,rfl⟩) (λp T W W' h hb=>match p,h with|0,h=>⟨bu h.1 hb,h.2⟩|1,h=>⟨⟨bu h.1.1 hb,h.1.2⟩,h.2⟩|2,h=>⟨⟨bu h.1.1 hb,h.1.2⟩,h.2⟩|3,h=>⟨⟨bu h.1.1 hb,ShB.mono h.1.2 hb⟩,h.2⟩|4,h=>⟨⟨bu h.1.1 hb,h.1.2.mono zao hb⟩,h.2⟩|_+5,h=>⟨⟨bu h.1.1 hb,h.1.2.mono zao hb⟩,h.2⟩) (λp T T' W _ hT h=>match p,h with|0,h=>(by have e4:T' 7=T 7:=hT 4 dM;have h:BH we W/\T 7=vO:=h;show BH we W/\T' 7=vO;rw[e4];exact h)|1,h=>(by have e0:T' 81=T 81:=hT 0 dM;have e4:T' 7=T 7:=hT 4 dM;have h:(BH we W/\T 81=.agg #[.bool J2,.slice ao2 n2 Y2,.bool K2,.slice ap2 m2 Z2])/\T 7=vO:=h;show(BH we W/\T' 81=.agg #[.bool J2,.slice ao2 n2 Y2,.bool K2,.slice ap2 m2 Z2])/\T' 7=vO;rw[e0,e4];exact h)|2,h=>(by have e1:T' 82=T 82:=hT 1 dM;have e4:T' 7=T 7:=hT 4 dM;have h:(BH we W/\T 82=.agg #[.int .u16 (x0:Nat),.int .u16 (y0:Nat),.bool J2,.slice ao2 n2 Y2,.bool K2,.slice ap2 m2 Z2])/\T 7=vO:=h;show(BH we W/\T' 82=.agg #[.int .u16 (x0:Nat),.int .u16 (y0:Nat),.bool J2,.slice ao2 n2 Y2,.bool K2,.slice ap2 m2 Z2])/\T' 7=vO;rw[e1,e4];exact h)|3,h=>(by have e2:T' 83=T 83:=hT 2 dM;have e4:T' 7=T 7:=hT 4 dM;have h:(BH we W/\ShB W (T 83) ((x0,y0),Rat.divInt (x:Nat) (TT:Nat)))/\T 7=vO:=h;show(BH we W/\ShB W (T' 83) ((x0,y0),Rat.divInt (x:Nat) (TT:Nat)))/\T' 7=vO;rw[e2,e4];exact h)|4,h=>(by have e3:T' 84=T 84:=hT 3 dM;have e4:T' 7=T 7:=hT 4 dM;have h:(BH w1 W/\za6 59 6 zaD W w1.heap.size (T 84) (L++[((x0,y0),Rat.divInt (x:Nat) (TT:Nat))]))/\T 7=vO:=h;show(BH w1 W/\za6 59 6 zaD W w1.heap.size (T' 84) (L++[((x0,y0),Rat.divInt (x:Nat) (TT:Nat))]))/\T' 7=vO;rw[e3,e4];exact h)|_+5,h=>(by have e3:T' 84=T 84:=hT 3 dM;have e4:T' 7=T 7:=hT 4 dM;have h:(BH w1 W/\za6 59 6 zaD W w1.heap.size (T 84) (L++[((x0,y0),Rat.divInt (x:Nat) (TT:Nat))]))/\T 7=T 84:=h;show(BH w1 W/\za6 59 6 zaD W w1.heap.size (T' 84) (L++[((x0,y0),Rat.divInt (x:Nat) (TT:Nat))]))/\T' 7=T' 84;rw[e3,e4];exact h)) (Hb1.o) ⟨zac _ _,zac _ _,zac _ _,zac _ _,zac _ _,zac _ _,zac _ _,zac _ _,zac _ _,zac _ _,zac _ _,zac _ _,zac _ _,zac _ _,zac _ _,zac _ _,zac _ _,zac _ _,zac _ _,(λ_ _ _ h _=>h),(λ_ _ _ h _=>h),(λ_ _ _ h _=>h),(λ_ _ _ h _=>h),(λ_ _ _ h _=>h),trivial⟩ ⟨?s0,?s1,?s2,?s3,?s4,?s5,?s6,?s7,?s8,?s9,?s10,?s11,?s12,?s13,?s14,?s15,?s16,?s17,?s18,?s19,?s20,?s21,?s22,?s23,trivial⟩ ?he
      case' s0|s1|s2|s3|s4|s5|s6|s7|s8|s9|s10|s11|s12|s13|s14|s15|s16|s17|s18|s19|s20|s21|s22|s23=>
       rintro T W p hb hp hS hA K hK
      case' s1|s3|s4|s10|s12|s13=>
       clear hS;simp only[sA]at hK|-
      case' s2=>
       clear hS;have e1:T 63=_:=hA.1 rfl;obtain⟨k0,k1,k2,k3,k4,k5,k6⟩:=(r2.below hb).n7;simp only[sA,e1]at hK|-
      case' s5=>
       clear hS;have e4:T 66=_:=hA.1 rfl;obtain⟨k0,k1,k2,k3,k4,k5,k6⟩:=(r2.below hb).n7;simp only[sA,e4]at hK|-
      case' s6=>
       clear hS;have e5:T 67=_:=hA.1 rfl;simp only[sA,e5]at hK|-
      case' s7=>
       clear hS;have e3:T 65=_:=hA.1 rfl;have e6:T 68=_:=hA.2.1 rfl;simp only[sA,e3,e6]at hK|-
      case' s8=>
       clear hS;have e2:T 64=_:=hA.1 rfl;have e7:T 69=_:=hA.2.1 rfl;simp only[sA,e2,e7]at hK|-
      case' s9=>
       clear hS;have e8:T 70=_:=hA.1 rfl;have h0:=(hb.cell (zaf hcx)).trans hcx;simp only[sA,e8]at hK|-
      case' s11=>
       clear hS;have e10:T 72=_:=hA.1 rfl;obtain⟨k0,k1,k2,k3,k4,k5,k6⟩:=(r2.below hb).n7;simp only[sA,e10]at hK|-
      case' s14=>
       clear hS;have e13:T 75=_:=hA.1 rfl;obtain⟨k0,k1,k2,k3,k4,k5,k6⟩:=(r2.below hb).n7;simp only[sA,e13]at hK|-
      case' s15=>
       clear hS;have e14:T 76=_:=hA.1 rfl;simp only[sA,e14]at hK|-
      case' s16=>
       clear hS;have e12:T 74=_:=hA.1 rfl;have e15:T 77=_:=hA.2.1 rfl;simp only[sA,e12,e15]at hK|-
      case' s17=>
       clear hS;have e11:T 73=_:=hA.1 rfl;have e16:T 78=_:=hA.2.1 rfl;simp only[sA,e11,e16]at hK|-
      case' s18=>
       clear hS;have e17:T 79=_:=hA.1 rfl;have h0:=(hb.cell (zaf hcy)).trans hcy;simp only[sA,e17]at hK|-
      case s1|s2|s3|s4|s5|s6|s7|s8|s9|s10|s11|s12|s13|s14|s15|s16|s17|s18=>
       exact cE
      case s0=>
       have hp:p∈[0,1,2,3]:=hp;simp only[List.mem_cons,List.not_mem_nil,or_false]at hp;rcases hp with rfl|rfl|rfl|rfl
       ·have hS:BH we W/\T 7=vO:=hS;have eT:=hS.2;clear hS;clear hS;exact dP
       ·have hS:(BH we W/\T 81=.agg #[.bool J2,.slice ao2 n2 Y2,.bool K2,.slice ap2 m2 Z2])/\T 7=vO:=hS;have eT:=hS.2;clear hS;clear hS;exact dP
       ·have hS:(BH we W/\T 82=.agg #[.int .u16 (x0:Nat),.int .u16 (y0:Nat),.bool J2,.slice ao2 n2 Y2,.bool K2,.slice ap2 m2 Z2])/\T 7=vO:=hS;have eT:=hS.2;clear hS;clear hS;exact dP
       ·have hS:(BH we W/\ShB W (T 83) ((x0,y0),Rat.divInt (x:Nat) (TT:Nat)))/\T 7=vO:=hS;have eT:=hS.2;clear hS;clear hS;exact dP
      case s19=>
       obtain rfl:p=0:=by simpa using hp
       have hS:BH we W/\T 7=vO:=hS;obtain⟨f0,f1,f2,f3⟩:=(r9.below hS.1).n4;have eT:=hS.2;simp only[sA,eT]at hK|-;have HK:=hii hK;clear hK hA;refine wO rfl ?_;go_simp;exact HK.o _ _ ⟨λh=>absurd rfl h,λ_=>⟨⟨⟨hS.1,rfl⟩,hS.2⟩,br⟩⟩ (trivial)
      case s20=>
       obtain rfl:p=1:=by simpa using hp
       have hS:(BH we W/\T 81=.agg #[.bool J2,.slice ao2 n2 Y2,.bool K2,.slice ap2 m2 Z2])/\T 7=vO:=hS;have e9:T 71=_:=hA.1 rfl;have e18:T 80=_:=hA.2.1 rfl;have eQ:=hS.1.2;have eT:=hS.2;simp only[sA,e9,e18,eQ,eT]at hK|-;have HK:=hii hK;clear hK hA;refine wO rfl ?_;go_simp;exact HK.o _ _ ⟨λh=>absurd rfl h,λ_=>⟨⟨⟨hS.1.1,rfl⟩,hS.2⟩,br⟩⟩ (trivial)
      case s21=>
       obtain rfl:p=2:=by simpa using hp
       have hS:(BH we W/\T 82=.agg #[.int .u16 (x0:Nat),.int .u16 (y0:Nat),.bool J2,.slice ao2 n2 Y2,.bool K2,.slice ap2 m2 Z2])/\T 7=vO:=hS;have eQ:=hS.1.2;have eT:=hS.2;simp only[sA,eQ,eT]at hK|-;have HK:=hii hK;clear hK hA;refine wO rfl ?_;go_simp;obtain⟨w2,hw2⟩:∃w2,w2=W.alloc (.cells #[.int .u16 (x0:Nat),.int .u16 (y0:Nat),.bool J2,.slice ao2 n2 Y2,.bool K2,.slice ap2 m2 Z2] 59):=⟨_,rfl⟩;have hb1:BH W w2:=by rw[hw2];exact bA W _
       have hsh:=zje W (r:=x0) (s:=y0) (hV.mono hS.1.1);rw[<-hw2]at hsh;rw[<-hw2]
       try dsimp only
       exact HK.o _ _ ⟨λh=>absurd rfl h,λ_=>⟨⟨⟨bu hS.1.1 hb1,hsh⟩,hS.2⟩,hb1.mono hb.size⟩⟩ (trivial)
      case s22=>
       obtain rfl:p=3:=by simpa using hp
       have hS:(BH we W/\ShB W (T 83) ((x0,y0),Rat.divInt (x:Nat) (TT:Nat)))/\T 7=vO:=hS;have e0:T 62=_:=hA.1 rfl;simp only[sA,e0]at hK|-;have HK:=hii hK;clear hK hA;have hq:=hS.1.2;obtain⟨v9,w9,hr,ho,hbb⟩:=zeo W W 37 w1.heap.size vO _ L ((x0,y0),Rat.divInt (x:Nat) (TT:Nat)) (HO.o.mono zao hS.1.1) hb.size br hq HLl.o;refine wO rfl ?_;refine zat _ _ rfl rfl rfl hr ?_;simp only[Act.put,List.setIfInBounds_toArray,List.set_cons_zero,List.set_cons_succ];exact HK.o _ _ ⟨λh=>absurd rfl h,λ_=>⟨⟨⟨hb.trans hbb,ho⟩,hS.2⟩,hbb⟩⟩ (trivial)
      case s23=>
       obtain rfl:p=4:=by simpa using hp
       have hS:(BH w1 W/\za6 59 6 zaD W w1.heap.size (T 84) (L++[((x0,y0),Rat.divInt (x:Nat) (TT:Nat))]))/\T 7=vO:=hS;have e0:T 62=_:=hA.2.2.1 rfl;have e1:T 63=_:=hA.2.2.2.1 rfl;have e2:T 64=_:=hA.2.2.2.2.1 rfl;have e3:T 65=_:=hA.2.2.2.2.2.1 rfl;have e4:T 66=_:=hA.2.2.2.2.2.2.1 rfl;have e5:T 67=_:=hA.2.2.2.2.2.2.2.1 rfl;have e6:T 68=_:=hA.2.2.2.2.2.2.2.2.1 rfl;have e7:T 69=_:=hA.2.2.2.2.2.2.2.2.2.1 rfl;have e8:T 70=_:=hA.2.2.2.2.2.2.2.2.2.2.1 rfl;have e9:T 71=_:=hA.2.2.2.2.2.2.2.2.2.2.2.1 rfl;have e10:T 72=_:=hA.2.2.2.2.2.2.2.2.2.2.2.2.1 rfl;have e11:T 73=_:=hA.2.2.2.2.2.2.2.2.2.2.2.2.2.1 rfl;have e12:T 74=_:=hA.2.2.2.2.2.2.2.2.2.2.2.2.2.2.1 rfl;have e13:T 75=_:=hA.2.2.2.2.2.2.2.2.2.2.2.2.2.2.2.1 rfl;have e14:T 76=_:=hA.2.2.2.2.2.2.2.2.2.2.2.2.2.2.2.2.1 rfl;have e15:T 77=_:=hA.2.2.2.2.2.2.2.2.2.2.2.2.2.2.2.2.2.1 rfl;have e16:T 78=_:=hA.2.2.2.2.2.2.2.2.2.2.2.2.2.2.2.2.2.2.1 rfl;have e17:T 79=_:=hA.2.2.2.2.2.2.2.2.2.2.2.2.2.2.2.2.2.2.2.1 rfl;have e18:T 80=_:=hA.2.2.2.2.2.2.2.2.2.2.2.2.2.2.2.2.2.2.2.2.1 rfl;have hS2:=hS.1;have eT:=hS.2;simp only[sA,e0,e1,e2,e3,e4,e5,e6,e7,e8,e9,e10,e11,e12,e13,e14,e15,e16,e17,e18,eT]at hK|-;have HK:=hii hK;clear hK hA;refine wO rfl ?_;go_simp;exact HK.o (T 84) _ ⟨λh=>absurd rfl h,λ_=>⟨⟨hS2,rfl⟩,br⟩⟩ (trivial)
      case he=>
       rintro T W hb hS hA;have hS:(BH w1 W/\za6 59 6 zaD W w1.heap.size (T 84) (L++[((x0,y0),Rat.divInt (x:Nat) (TT:Nat))]))/\T 7=T 84:=hS;simp only[sA];obtain⟨⟨Hb9,hO9⟩,e7⟩:=hS;rw[<-e7]at hO9;obtain⟨v9,hv9⟩:∃v,T 7=v:=⟨_,rfl⟩;rw[hv9]at hO9|-;clear hA e7 hv9;go_wp2;go_roundw
       case rel=>exact⟨i+1,oM,gM,by rw[hTT]at HL2 hO9;rw[HL2.o];exact hO9,hii Hb9⟩
       case measure=>exact mM
     ·have hil:¬(i:Int)<(nL:Int):=oM;obtain rfl:i=nL:=oM;subst eO;clear hOr;go_wp2;go_ret;exact⟨⟨_,rfl,by rw[HSt.o];exact hO.base hbw.size⟩,Below.step hbw Hb1.o nl⟩
end Go.Proofs.YtfgffkmddanjjaaGreatDoor
