/-
  The reference: strategies.
-/
import Derived.Test.YtfgffkmddanjjaaGreatDoorMe
import Derived.Test.YtfgffkmddanjjaaGreatDoorMh
set_option linter.unusedVariables false
set_option linter.unusedSimpArgs false
set_option maxRecDepth 100000
set_option maxHeartbeats 25600000
namespace Go.Proofs.YtfgffkmddanjjaaGreatDoor
open _root_.Go.Proofs.Tryz
open Go.RowKit
def ShB(W:Wo)(v:Vl)(a:(Nat×Nat)×Rat):Prop:=∃(n:Nat)(c:List Vl),v=.slice (sD n 0) 1 1/\c.length=6/\(∀(j:Nat)(u:Vl),c[j]?=some u->W.cell? (aD_ n j)=some u)/\(∀u∈c,u.oneCell'=true)/\(∀u∈c,zaK u)/\zaB W c a
theorem ShB.mono{W W':Wo}{v:Vl}{a:(Nat×Nat)×Rat}(h:ShB W v a)(hb:BH W W'):ShB W' v a:=by
 obtain⟨n,c,e,h1,h2,h3,h4,h5⟩:=h;exact⟨n,c,e,h1,λj u hu=>(hb.cell (zag (h2 j u hu))).trans (h2 j u hu),h3,h4,zal.below h5 hb⟩
theorem ziQ(W:Wo){r s:Nat}{J1:Bool}{ao1:OA}{n1 Y1:Nat}{K1:Bool}{ap1:OA}{m1 Z1:Nat}{x:Rat}(h:zad W (qA J1 ao1 n1 Y1 K1 ap1 m1 Z1) x):ShB (W.alloc (.cells #[.int .u16 (r:Nat),.int .u16 (s:Nat),.bool J1,.slice ao1 n1 Y1,.bool K1,.slice ap1 m1 Z1] 59)) (.slice (some ⟨W.heap.size,0,none⟩) 1 1) ((r,s),x):=by
 have hb:=bA W (.cells #[.int .u16 (r:Nat),.int .u16 (s:Nat),.bool J1,.slice ao1 n1 Y1,.bool K1,.slice ap1 m1 Z1] 59);have hrow:Row (W.alloc (.cells #[.int .u16 (r:Nat),.int .u16 (s:Nat),.bool J1,.slice ao1 n1 Y1,.bool K1,.slice ap1 m1 Z1] 59)) W.heap.size 59 [.int .u16 (r:Nat),.int .u16 (s:Nat),.bool J1,.slice ao1 n1 Y1,.bool K1,.slice ap1 m1 Z1]:=heap_alloc_new _ _;refine⟨W.heap.size,[.int .u16 (r:Nat),.int .u16 (s:Nat),.bool J1,.slice ao1 n1 Y1,.bool K1,.slice ap1 m1 Z1],rfl,rfl,λj u hu=>?_,zoU,zoe,_,_,_,_,_,_,_,_,rfl,h.mono hb⟩;obtain⟨hj,rfl⟩:=List.getElem?_eq_some_iff.1 hu;exact hrow.cell hj
theorem zd5(w W:Wo)(ty:TypeId)(B:Nat)(v s:Vl)(l:List ((Nat×Nat)×Rat))(a:(Nat×Nat)×Rat)(hown:za9 59 6 zaB w B v l)(hB:B<=w.heap.size)(hb:Below B W w)(hs:ShB w s a)(hl:l.length<=1000000) :
  ∃v' w',(Builtin.append_ #[37,37] ty #[v,s]).run Tryz.prog w=.ok v' w'/\za9 59 6 zaB w' B v' (l++[a])/\Below B W w':=by
 obtain⟨n,c,rfl,h1,h2,h3,h4,h5⟩:=hs;obtain⟨v',w',k1,k2,k3,_,_⟩:=zft zaB zal Tryz.slice37 Tryz.info59 rfl (by decide) (by decide) zoe w W ty B v l a n 1 c hown hB hb h1 h2 h3 h4 h5 hl;exact⟨v',w',k1,k2,k3⟩
theorem za9.base{T:TypeId}{k:Nat}{α:Type}{R:Wo->List Vl->α->Prop}{w:Wo}{B B':Nat}{v:Vl}{l:List α}(h:za9 T k R w B' v l)(hB:B<=B'):za9 T k R w B v l:=by
 obtain⟨els,h1,h2,h3,h4⟩:=h;refine⟨els,h1,h2,⟨h3.1,h3.2.imp _root_.id ?_⟩,h4⟩;rintro⟨g,cap,cur,e,hb,r⟩;exact⟨g,cap,cur,e,Nat.le_trans hB hb,r⟩
theorem zfv(R S l:LN)(aR aS aL aC:OA)(cR cS cL nC cC:Nat){J1:Bool}{ao1:OA}{n1 Y1:Nat}{K1:Bool}{ap1:OA}{m1 Z1:Nat}(w:Wo)(hl:l.length<=10)(hR:1<=R.length/\R.length<=400)(hS:1<=S.length/\S.length<=400)(uR:zaR w aR R)(uS:zaR w aS S)(uL:ByU w aL l)(H8:Hid (∀x∈l,x<256))(hE:Env w) :
  CP 17 #[.agg #[.slice aR R.length cR,.slice aS S.length cS,.bool J1,.slice ao1 n1 Y1,.bool K1,.slice ap1 m1 Z1,.slice aC nC cC],.slice aL l.length cL] w λe w'=>(∃v,e=.returned v/\za9 59 6 zaB w' w.heap.size v (zgZ R S l))/\BH w w':=by
 have hbw:=Below.refl w.heap.size w;have HTl:Hid (∀k,zcU (l.take k)<=255*k):=hii (zgb l λx hx=>by have:=H8.out x hx;omega);have HTk:Hid (∀(k x:Nat),l[k]?=some x->zcU (l.take (k+1))=zcU (l.take k)+x):=hii λk x h=>zdt h
 have HSt:Hid (zgZ R S l=if zcU l=0 then [((R.getD 0 0,S.getD 0 0),1)]else zb0 R S l (zcU l) l.length):=hii rfl;have HShr:Hid (∀(T i:Nat),zb0 R S l T (i+1)=zb0 R S l T i++[((R.getD (i % (R.length*S.length) / S.length) 0,S.getD (i % (R.length*S.length) % S.length) 0),Rat.divInt (l.getD i 0:Nat) (T:Nat))]):=hii λT i=>zd2 R S l T i
 obtain⟨b0,o0,eR,cR0⟩:=uR 0 _ (gE (by omega));obtain⟨b1,o1,eS,cS0⟩:=uS 0 _ (gE (by omega));subst eR;subst eS;clear cR0 cS0;obtain⟨nR,hnR⟩:∃m,R.length=m:=⟨_,rfl⟩;obtain⟨nS,hnS⟩:∃m,S.length=m:=⟨_,rfl⟩;obtain⟨nL,hnL⟩:∃m,l.length=m:=⟨_,rfl⟩;have HnR:=hii hnR;have HnS:=hii hnS;have HnL:=hii hnL;rw[hnR]at hR HShr|-;rw[hnS]at hS HShr|-;rw[hnL]at hl HSt|-;have HTL:Hid (zcU (l.take nL)=zcU l):=hii (by rw[<-hnL,List.take_length]);clear hnR hnS hnL;go_enter func17,ntmps17;go_upto_region 1 with fail;obtain⟨w1,g2,hw9,hg9,hb,r2⟩:=bxr w [.slice (sD b0 o0) nR cR,.slice (sD b1 o1) nS cS,.bool J1,.slice ao1 n1 Y1,.bool K1,.slice ap1 m1 Z1,.slice aC nC cC] 35;rw[<-hw9,<-hg9];have Hg2:Hid (w.heap.size<=g2):=hii (by have:=hbw.size;omega);clear hw9 hg9;have uR:=uR.mono hb;have uS:=uS.mono hb;have uL:=uL.mono hb;have hE:=hE.mono hb;have hbw:=bu hbw hb;clear hb;go_wp2_with fail;go_loopw [5,6] (λt s wr=>∃i T:Nat,i<=nL/\s=.int .i64 i/\t=.int .i64 (T:Nat)/\T<=255*i/\Hid (T=zcU (l.take i))/\w1=wr) (λ_ s _=>nL-(intOf s).toNat)
 case atStart=>exact⟨0,0,Nat.zero_le _,rfl,rfl,nl,hii rfl,by trivial⟩
 case round=>
  obtain⟨i,T,hi,rfl,rfl,hT,HT,rfl⟩:=hrel
  by_cases hlt:i<nL
  ·obtain⟨x,hx⟩:∃x,l[i]?=some x:=⟨l[i]'(by rw[HnL.out];exact hlt),gE _⟩;have hx8:=H8.out x (List.mem_of_getElem? hx);have HT2:Hid (T+x=zcU (l.take (i+1))):=hii (by rw[HTk.out i x hx,HT.out]);obtain⟨bL,oL,eL,hc⟩:=uL i x hx;have hT2:T+x<=255*(i+1):=by omega
   have hil:(i:Int)<(nL:Int):=by omega
   have hi10:(i:Int)<10:=by omega
   subst eL;clear hx;go_wp2;go_roundw
   case rel=>exact⟨i+1,T+x,by omega,by go_num,by go_num,hT2,HT2,by trivial⟩
   case measure=>simp[intOf];omega
  ·have hil:¬(i:Int)<(nL:Int):=by omega
   obtain rfl:i=nL:=by omega
   have HT2:Hid (zcU l=T):=hii (by rw[HT.out,HTL.out]);rw[HT2.out]at HSt;clear HT hlt
   by_cases hT0:T=0
   ·subst hT0;have HSt:Hid (zgZ R S l=[((R.getD 0 0,S.getD 0 0),1)]):=hii (by rw[HSt.out,if_pos rfl]);clear HShr;have H0:Hid (((0:Nat):Int)=0):=hii rfl;go_upto_block 2 with fail;go_cut [7] (λs7 wc=>s7=nS_/\w1=wc)
    case first=>
     go_wp2_with fail;go_loopw [7,8] (λv s wr=>v=nS_/\s=.int .i64 0/\w1=wr) (λ_ s _=>0)
     case atStart=>exact⟨rfl,rfl,by trivial⟩
     case round=>
      obtain⟨rfl,rfl,rfl⟩:=hrel
      by_cases hL0:0<i
      ·have hL1:(0:Int)<(i:Int):=by omega
       go_wp2;go_meet;exact⟨rfl,rfl⟩
      ·have hL1:¬(0:Int)<(i:Int):=by omega
       go_wp2;go_meet;exact⟨rfl,rfl⟩
    case rest=>
     obtain⟨rfl,rfl⟩:=hcut;have hR1:(0:Int)<(nR:Int):=by omega
     have hS1:(0:Int)<(nS:Int):=by omega
     have hR0:0<nR:=by omega
     have hS0:0<nS:=by omega
     obtain⟨x0,hx0⟩:∃x,R[0]?=some x:=⟨R[0]'(by rw[HnR.out];omega),gE _⟩;obtain⟨y0,hy0⟩:∃x,S[0]?=some x:=⟨S[0]'(by rw[HnS.out];omega),gE _⟩;obtain⟨b0',o0',e0',hcx⟩:=uR 0 x0 hx0;obtain⟨b1',o1',e1',hcy⟩:=uS 0 y0 hy0
     cases e0'
     cases e1'
     rw[Nat.add_zero]at hcx hcy;have HSt9:Hid (zgZ R S l=[((x0,y0),1)]):=hii (by rw[HSt.out,List.getD_eq_getElem?_getD,List.getD_eq_getElem?_getD,hx0,hy0];rfl);clear hx0 hy0 HSt;go_upto_region 14 with fail;refine zbA srB (wx:=w1) [vf nS_,vf (pT g2 0),vf (.slice (sD b0 o0) nR cR),vf (pT b0 o0),vf (.int .u16 (x0:Nat)),vf (pT g2 1),vf (.slice (sD b1 o1) nS cS),vf (pT b1 o1),vf (.int .u16 (y0:Nat)),(λ_ _=>True),(λ_ _=>True),(λ_ _=>True),(λ_ _=>True),(λ_ _=>True)] [some 87,some 88,some 89,some 90,some 91,some 92,some 93,some 94,some 95,some 96,some 97,some 98,some 99,some 7] [87,88,89,90,91,92,93,94,95,96,97,98,99,7] [9,10,11,12,13] [[0,1,2,3],[0,1,2,3,4],[0,1,2,3,4],[0,1,2,3,4],[0,1],[0,1,2,3,4],[0,1,2,3,4],[0,1,2,3,4],[0,1],[0],[1],[2],[3],[4]] [none,none,none,none,none,none,none,none,none,none,none,none,none,none] (λp T W=>match p with|0=>BH w1 W/\T 7=nS_|1=>(BH w1 W/\zad W (T 96) 1)/\T 7=nS_|2=>(BH w1 W/\∃J2 ao2 n2 Y2 K2 ap2 m2 Z2,T 97=.agg #[.int .u16 (x0:Nat),.int .u16 (y0:Nat),.bool J2,.slice ao2 n2 Y2,.bool K2,.slice ap2 m2 Z2]/\zad W (qA J2 ao2 n2 Y2 K2 ap2 m2 Z2) 1)/\T 7=nS_|3=>(BH w1 W/\ShB W (T 98) ((x0,y0),1))/\T 7=nS_|4=>(BH w1 W/\za9 59 6 zaB W w1.heap.size (T 99) ([]++[((x0,y0),1)]))/\T 7=nS_|_+5=>(BH w1 W/\za9 59 6 zaB W w1.heap.size (T 99) ([]++[((x0,y0),1)]))/\T 7=T 99) (by kernel_rfl) (by kernel_rfl) (by kernel_rfl) (by kernel_rfl) (of_decide_eq_true (by kernel_rfl)) (of_decide_eq_true (by kernel_rfl)) (by kernel_rfl) (by kernel_rfl) (⟨br.drew,rfl⟩) (λp T W W' h hb=>match p,h with|0,h=>⟨bu h.1 hb,h.2⟩|1,h=>⟨⟨bu h.1.1 hb,h.1.2.mono hb⟩,h.2⟩|2,h=>⟨⟨bu h.1.1 hb,h.1.2.elim λa h=>h.elim λb h=>h.elim λc h=>h.elim λd h=>h.elim λe h=>h.elim λf h=>h.elim λg h=>h.elim λi h=>⟨a,b,c,d,e,f,g,i,h.1,h.2.mono hb⟩⟩,h.2⟩|3,h=>⟨⟨bu h.1.1 hb,ShB.mono h.1.2 hb⟩,h.2⟩|4,h=>⟨⟨bu h.1.1 hb,h.1.2.mono zal hb⟩,h.2⟩|_+5,h=>⟨⟨bu h.1.1 hb,h.1.2.mono zal hb⟩,h.2⟩) (λp T T' W _ hT h=>match p,h with|0,h=>(by have e4:T' 7=T 7:=hT 4 (by decide);have h:BH w1 W/\T 7=nS_:=h;show BH w1 W/\T' 7=nS_;rw[e4];exact h)|1,h=>(by have e0:T' 96=T 96:=hT 0 (by decide);have e4:T' 7=T 7:=hT 4 (by decide);have h:(BH w1 W/\zad W (T 96) 1)/\T 7=nS_:=h;show(BH w1 W/\zad W (T' 96) 1)/\T' 7=nS_;rw[e0,e4];exact h)|2,h=>(by have e1:T' 97=T 97:=hT 1 (by decide);have e4:T' 7=T 7:=hT 4 (by decide);have h:(BH w1 W/\∃J2 ao2 n2 Y2 K2 ap2 m2 Z2,T 97=.agg #[.int .u16 (x0:Nat),.int .u16 (y0:Nat),.bool J2,.slice ao2 n2 Y2,.bool K2,.slice ap2 m2 Z2]/\zad W (qA J2 ao2 n2 Y2 K2 ap2 m2 Z2) 1)/\T 7=nS_:=h;show(BH w1 W/\∃J2 ao2 n2 Y2 K2 ap2 m2 Z2,T' 97=.agg #[.int .u16 (x0:Nat),.int .u16 (y0:Nat),.bool J2,.slice ao2 n2 Y2,.bool K2,.slice ap2 m2 Z2]/\zad W (qA J2 ao2 n2 Y2 K2 ap2 m2 Z2) 1)/\T' 7=nS_;rw[e1,e4];exact h)|3,h=>(by have e2:T' 98=T 98:=hT 2 (by decide);have e4:T' 7=T 7:=hT 4 (by decide);have h:(BH w1 W/\ShB W (T 98) ((x0,y0),1))/\T 7=nS_:=h;show(BH w1 W/\ShB W (T' 98) ((x0,y0),1))/\T' 7=nS_;rw[e2,e4];exact h)|4,h=>(by have e3:T' 99=T 99:=hT 3 (by decide);have e4:T' 7=T 7:=hT 4 (by decide);have h:(BH w1 W/\za9 59 6 zaB W w1.heap.size (T 99) ([]++[((x0,y0),1)]))/\T 7=nS_:=h;show(BH w1 W/\za9 59 6 zaB W w1.heap.size (T' 99) ([]++[((x0,y0),1)]))/\T' 7=nS_;rw[e3,e4];exact h)|_+5,h=>(by have e3:T' 99=T 99:=hT 3 (by decide);have e4:T' 7=T 7:=hT 4 (by decide);have h:(BH w1 W/\za9 59 6 zaB W w1.heap.size (T 99) ([]++[((x0,y0),1)]))/\T 7=T 99:=h;show(BH w1 W/\za9 59 6 zaB W w1.heap.size (T' 99) ([]++[((x0,y0),1)]))/\T' 7=T' 99;rw[e3,e4];exact h)) br ⟨zac _ _,zac _ _,zac _ _,zac _ _,zac _ _,zac _ _,zac _ _,zac _ _,zac _ _,(λ_ _ _ h _=>h),(λ_ _ _ h _=>h),(λ_ _ _ h _=>h),(λ_ _ _ h _=>h),(λ_ _ _ h _=>h),trivial⟩ ⟨?s0,?s1,?s2,?s3,?s4,?s5,?s6,?s7,?s8,?s9,?s10,?s11,?s12,?s13,trivial⟩ ?he
     case' s0|s1|s2|s3|s4|s5|s6|s7|s8|s9|s10|s11|s12|s13=>
      rintro T W p hb hp hS hA K hK
     case' s1|s5=>
      clear hS;simp only[sA]at hK|-
     case' s2=>
      clear hS;have e1:T 88=_:=hA.1 rfl;obtain⟨k0,k1,k2,k3,k4,k5,k6⟩:=(r2.below hb).n7;simp only[sA,e1]at hK|-
     case' s3=>
      clear hS;have e2:T 89=_:=hA.1 rfl;simp only[sA,e2]at hK|-
     case' s4=>
      clear hS;have e3:T 90=_:=hA.1 rfl;have h0:=(hb.cell (zag hcx)).trans hcx;simp only[sA,e3]at hK|-
     case' s6=>
      clear hS;have e5:T 92=_:=hA.1 rfl;obtain⟨k0,k1,k2,k3,k4,k5,k6⟩:=(r2.below hb).n7;simp only[sA,e5]at hK|-
     case' s7=>
      clear hS;have e6:T 93=_:=hA.1 rfl;simp only[sA,e6]at hK|-
     case' s8=>
      clear hS;have e7:T 94=_:=hA.1 rfl;have h0:=(hb.cell (zag hcy)).trans hcy;simp only[sA,e7]at hK|-
     case s1|s2|s3|s4|s5|s6|s7|s8=>
      have HK:=hii hK;clear hK hA;refine wO rfl ?_;go_simp;exact HK.out _ _ ⟨λ_=>br,λh=>absurd h (zas (by decide) (by decide))⟩ (rfl)
     case s0=>
      have hp:p∈[0,1,2,3]:=hp;simp only[List.mem_cons,List.not_mem_nil,or_false]at hp;rcases hp with rfl|rfl|rfl|rfl
      ·have hS:BH w1 W/\T 7=nS_:=hS;have eT:=hS.2;simp only[sA,eT]at hK|-;have HK:=hii hK;clear hK hA;refine wO rfl ?_;go_simp;exact HK.out _ _ ⟨λ_=>br,λh=>absurd h (zas (by decide) (by decide))⟩ (rfl)
      ·have hS:(BH w1 W/\zad W (T 96) 1)/\T 7=nS_:=hS;have eT:=hS.2;simp only[sA,eT]at hK|-;have HK:=hii hK;clear hK hA;refine wO rfl ?_;go_simp;exact HK.out _ _ ⟨λ_=>br,λh=>absurd h (zas (by decide) (by decide))⟩ (rfl)
      ·have hS:(BH w1 W/\∃J2 ao2 n2 Y2 K2 ap2 m2 Z2,T 97=.agg #[.int .u16 (x0:Nat),.int .u16 (y0:Nat),.bool J2,.slice ao2 n2 Y2,.bool K2,.slice ap2 m2 Z2]/\zad W (qA J2 ao2 n2 Y2 K2 ap2 m2 Z2) 1)/\T 7=nS_:=hS;have eT:=hS.2;simp only[sA,eT]at hK|-;have HK:=hii hK;clear hK hA;refine wO rfl ?_;go_simp;exact HK.out _ _ ⟨λ_=>br,λh=>absurd h (zas (by decide) (by decide))⟩ (rfl)
      ·have hS:(BH w1 W/\ShB W (T 98) ((x0,y0),1))/\T 7=nS_:=hS;have eT:=hS.2;simp only[sA,eT]at hK|-;have HK:=hii hK;clear hK hA;refine wO rfl ?_;go_simp;exact HK.out _ _ ⟨λ_=>br,λh=>absurd h (zas (by decide) (by decide))⟩ (rfl)
     case s9=>
      obtain rfl:p=0:=by simpa using hp
      have hS:BH w1 W/\T 7=nS_:=hS;have eT:=hS.2;simp only[sA,eT]at hK|-;have HK:=hii hK;clear hK hA;refine wO rfl ?_;go_simp;go_fit (zlV 1 W (by decide) (by decide) (hE.mono hb));rintro e w2⟨hz,hb1⟩;obtain⟨J2,ao2,n2,Y2,K2,ap2,m2,Z2,rfl,hV2⟩:=hz.rat;have hV2:zad w2 (qA J2 ao2 n2 Y2 K2 ap2 m2 Z2) 1:=hV2
      try dsimp only
      exact HK.out _ _ ⟨λh=>absurd rfl h,λ_=>⟨⟨⟨bu hS.1 hb1,hV2⟩,hS.2⟩,hb1.mono hb.size⟩⟩ (trivial)
     case s10=>
      obtain rfl:p=1:=by simpa using hp
      have hS:(BH w1 W/\zad W (T 96) 1)/\T 7=nS_:=hS;have e4:T 91=_:=hA.1 rfl;have e8:T 95=_:=hA.2.1 rfl;have hq:=hS.1.2;obtain⟨J2,ao2,n2,Y2,K2,ap2,m2,Z2,eQ⟩:=hq.parts;rw[eQ]at hq;have eT:=hS.2;simp only[sA,e4,e8,eQ,eT]at hK|-;have HK:=hii hK;clear hK hA;refine wO rfl ?_;go_simp;exact HK.out _ _ ⟨λh=>absurd rfl h,λ_=>⟨⟨⟨hS.1.1,_,_,_,_,_,_,_,_,rfl,hq⟩,hS.2⟩,br⟩⟩ (trivial)
     case s11=>
      obtain rfl:p=2:=by simpa using hp
      have hS:(BH w1 W/\∃J2 ao2 n2 Y2 K2 ap2 m2 Z2,T 97=.agg #[.int .u16 (x0:Nat),.int .u16 (y0:Nat),.bool J2,.slice ao2 n2 Y2,.bool K2,.slice ap2 m2 Z2]/\zad W (qA J2 ao2 n2 Y2 K2 ap2 m2 Z2) 1)/\T 7=nS_:=hS;obtain⟨J2,ao2,n2,Y2,K2,ap2,m2,Z2,eQ,hq⟩:=hS.1.2;have eT:=hS.2;simp only[sA,eQ,eT]at hK|-;have HK:=hii hK;clear hK hA;refine wO rfl ?_;go_simp;obtain⟨w2,hw2⟩:∃w2,w2=W.alloc (.cells #[.int .u16 (x0:Nat),.int .u16 (y0:Nat),.bool J2,.slice ao2 n2 Y2,.bool K2,.slice ap2 m2 Z2] 59):=⟨_,rfl⟩;have hb1:BH W w2:=by rw[hw2];exact bA W _
      have hsh:=ziQ W (r:=x0) (s:=y0) hq;rw[<-hw2]at hsh;rw[<-hw2]
      try dsimp only
      exact HK.out _ _ ⟨λh=>absurd rfl h,λ_=>⟨⟨⟨bu hS.1.1 hb1,hsh⟩,hS.2⟩,hb1.mono hb.size⟩⟩ (trivial)
     case s12=>
      obtain rfl:p=3:=by simpa using hp
      have hS:(BH w1 W/\ShB W (T 98) ((x0,y0),1))/\T 7=nS_:=hS;have e0:T 87=_:=hA.1 rfl;simp only[sA,e0]at hK|-;have HK:=hii hK;clear hK hA;have hq:=hS.1.2;obtain⟨v9,w9,hr,ho,hbb⟩:=zd5 W W 37 w1.heap.size nS_ _ [] ((x0,y0),1) (za9.nil _ _) hb.size br hq (by simp);refine wO rfl ?_;refine zay _ _ rfl rfl rfl hr ?_;simp only[Act.put,List.setIfInBounds_toArray,List.set_cons_zero,List.set_cons_succ];exact HK.out _ _ ⟨λh=>absurd rfl h,λ_=>⟨⟨⟨hb.trans hbb,ho⟩,hS.2⟩,hbb⟩⟩ (trivial)
     case s13=>
      obtain rfl:p=4:=by simpa using hp
      have hS:(BH w1 W/\za9 59 6 zaB W w1.heap.size (T 99) ([]++[((x0,y0),1)]))/\T 7=nS_:=hS;have e0:T 87=_:=hA.2.2.1 rfl;have e1:T 88=_:=hA.2.2.2.1 rfl;have e2:T 89=_:=hA.2.2.2.2.1 rfl;have e3:T 90=_:=hA.2.2.2.2.2.1 rfl;have e4:T 91=_:=hA.2.2.2.2.2.2.1 rfl;have e5:T 92=_:=hA.2.2.2.2.2.2.2.1 rfl;have e6:T 93=_:=hA.2.2.2.2.2.2.2.2.1 rfl;have e7:T 94=_:=hA.2.2.2.2.2.2.2.2.2.1 rfl;have e8:T 95=_:=hA.2.2.2.2.2.2.2.2.2.2.1 rfl;have hS2:=hS.1;have eT:=hS.2;simp only[sA,e0,e1,e2,e3,e4,e5,e6,e7,e8,eT]at hK|-;have HK:=hii hK;clear hK hA;refine wO rfl ?_;go_simp;exact HK.out (T 99) _ ⟨λh=>absurd rfl h,λ_=>⟨⟨hS2,rfl⟩,br⟩⟩ (trivial)
     case he=>
      rintro T W hb hS hA;have hS:(BH w1 W/\za9 59 6 zaB W w1.heap.size (T 99) ([]++[((x0,y0),1)]))/\T 7=T 99:=hS;simp only[sA];obtain⟨⟨Hb9,hO9⟩,e7⟩:=hS;rw[<-e7]at hO9;obtain⟨v9,hv9⟩:∃v,T 7=v:=⟨_,rfl⟩;rw[hv9]at hO9|-;clear hA e7 hv9;go_wp2;go_ret;exact⟨⟨_,rfl,by rw[HSt9.out];exact hO9.base hbw.size⟩,bu hbw Hb9⟩
   ·have HSt:Hid (zgZ R S l=zb0 R S l T i):=hii (by rw[HSt.out,if_neg hT0]);have hT1:(0:Int)<(T:Int):=by omega
    have hTz:((T:Int)==0)=false:=by simp;omega
    have hb1:=Below.refl w1.heap.size w1;obtain⟨nL,rfl⟩:∃n,n=i:=⟨_,rfl⟩;obtain⟨P,hP⟩:∃P,nR*nS=P:=⟨_,rfl⟩;have HP:=hii hP;rw[hP]at HShr;have hpm:(nR:Int)*(nS:Int)=(P:Int):=by rw[<-hP];push_cast;rfl
    have hPl:P<=160000:=by rw[<-hP];exact Nat.mul_le_mul hR.2 hS.2
    have hP1:1<=P:=by rw[<-hP];exact Nat.mul_le_mul hR.1 hS.1
    have hPz:((P:Int)==0)=false:=by simp;omega
    have hSz:((nS:Int)==0)=false:=by simp;omega
    have hPn:¬(P:Int)=0:=by omega
    have hSn:¬(nS:Int)=0:=by omega
    have hPn0:¬P=0:=by omega
    have hSn0:¬nS=0:=by omega
    clear hP hT0;go_wp2_with fail;go_loopw [7,8] (λv s wr=>∃i:Nat,i<=nL/\s=.int .i64 i/\za9 59 6 zaB wr w1.heap.size v (zb0 R S l T i)/\Hid (BH w1 wr)) (λ_ s _=>nL-(intOf s).toNat)
    case atStart=>exact⟨0,Nat.zero_le _,rfl,za9.nil _ _,hii hb1⟩
    case round=>
     clear hb1;obtain⟨i,hi,rfl,hO,Hb1⟩:=hrel;have hOr:=hO;obtain⟨aO,cO,eO,-,-⟩:=hOr.read;obtain⟨nO,hnO⟩:∃m,(zb0 R S l T i).length=m:=⟨_,rfl⟩;rw[hnO]at eO;clear hnO;obtain⟨L,hL⟩:∃L,zb0 R S l T i=L:=⟨_,rfl⟩;have HLl:Hid (L.length<=1000000):=hii (by rw[<-hL];unfold zb0;simp;omega)
     by_cases hlt:i<nL
     ·have hil:(i:Int)<(nL:Int):=by omega
      have hi10:(i:Int)<10:=by omega
      obtain⟨x,hx⟩:∃x,l[i]?=some x:=⟨l[i]'(by rw[HnL.out];exact hlt),gE _⟩;have hx8:=H8.out x (List.mem_of_getElem? hx);have HL2:=HShr.out T i;rw[show l.getD i 0=x by rw[List.getD_eq_getElem?_getD,hx];rfl,hL]at HL2;obtain⟨a,ha⟩:∃a,i % P=a:=⟨_,rfl⟩;have haP:a<P:=by rw[<-ha];exact Nat.mod_lt _ hP1
      have htm:Int.tmod (i:Int) (P:Int)=(a:Int):=by rw[<-ha];rfl
      rw[ha]at HL2;obtain⟨q,hq⟩:∃q,a / nS=q:=⟨_,rfl⟩;obtain⟨t,ht⟩:∃t,a % nS=t:=⟨_,rfl⟩;have hqR:q<nR:=by rw[<-hq];exact Nat.div_lt_of_lt_mul (by rw[Nat.mul_comm,HP.out];exact haP)
      have htS:t<nS:=by rw[<-ht];exact Nat.mod_lt _ hS.1
      have htd:Int.tdiv (a:Int) (nS:Int)=(q:Int):=by rw[<-hq];rfl
      have hwq:IntKind.i64.wrap (q:Int)=(q:Int):=by unfold IntKind.wrap;simp[IntKind.bits,IntKind.signed];omega
      have htm2:Int.tmod (a:Int) (nS:Int)=(t:Int):=by rw[<-ht];rfl
      rw[hq,ht]at HL2;obtain⟨x0,hx0⟩:∃x,R[q]?=some x:=⟨R[q]'(by rw[HnR.out];exact hqR),gE _⟩;obtain⟨y0,hy0⟩:∃x,S[t]?=some x:=⟨S[t]'(by rw[HnS.out];exact htS),gE _⟩;obtain⟨b0',o0',e0',hcx⟩:=uR q x0 hx0;obtain⟨b1',o1',e1',hcy⟩:=uS t y0 hy0
      cases e0'
      cases e1'
      have HL2:Hid (zb0 R S l T (i+1)=L++[((x0,y0),Rat.divInt (x:Nat) (T:Nat))]):=hii (by rw[HL2,List.getD_eq_getElem?_getD,List.getD_eq_getElem?_getD,hx0,hy0];rfl);rw[hL]at hO;have uLr:=uL.mono Hb1.out;obtain⟨bL,oL,eL,hc⟩:=uLr i x hx;subst eL;subst eO;have hqi:(q:Int)<(nR:Int):=by omega
      have hti:(t:Int)<(nS:Int):=by omega
      have hEr:=hE.mono Hb1.out;clear hx0 hy0 hx ha hq ht hL uLr hOr;go_wp2_with fail;go_fit (zd9 (x:Int) (T:Int) wr (by omega) (by omega) (by omega) (by omega) (hii (by omega)) hEr);rintro e wd⟨hz,hb⟩;obtain⟨J2,ao2,n2,Y2,K2,ap2,m2,Z2,rfl,hV⟩:=hz.rat;have hO:=hO.mono zal hb;have Hb1:=hii (Below.step Hb1.out hb nl);clear hb hz hc hEr;go_upto_region 11 with fail;have hbw0:=hbw;have hbw:=Hb1.out;obtain⟨we,g9,hw9,hg9,hb,r9⟩:=bxr wd [.bool J2,.slice ao2 n2 Y2,.bool K2,.slice ap2 m2 Z2] 32;rw[<-hw9,<-hg9];have Hg9:Hid (w1.heap.size<=g9):=hii (by have:=hbw.size;omega);clear hw9 hg9;have hV:=hV.mono hb;have hO:=hO.mono zal hb;have Hb1:=hii (Below.step Hb1.out hb nl);clear hb hbw;have hbw:=hbw0;clear hbw0;have r2k:=r2.below Hb1.out;obtain⟨k0,k1,k2,k3,k4,k5,k6⟩:=r2k.n7;have wz1:=hP1;go_upto_region 12 with fail;clear k0 k1 k2 k3 k4 k5 k6 r2k wz1;have HO:=hii hO;clear hO;obtain⟨vO,hvO⟩:∃v:Vl,v=.slice aO nO cO:=⟨_,rfl⟩;obtain⟨TT,hTT⟩:∃n,n=T:=⟨_,rfl⟩;rw[<-hTT]at HL2 hV;rw[<-hvO]at HO|-;clear hvO;refine zbA srB (wx:=w1) [vf vO,vf (pT g2 0),vf (.slice (sD b0 o0) nR cR),vf (.int .i64 (a:Nat)),vf (pT g2 1),vf (.slice (sD b1 o1) nS cS),vf (.int .i64 (nS:Nat)),vf (.int .i64 (q:Nat)),vf (.pointer (some ⟨b0,o0+q,none⟩)),vf (.int .u16 (x0:Nat)),vf (pT g2 1),vf (.slice (sD b1 o1) nS cS),vf (.int .i64 (a:Nat)),vf (pT g2 1),vf (.slice (sD b1 o1) nS cS),vf (.int .i64 (nS:Nat)),vf (.int .i64 (t:Nat)),vf (.pointer (some ⟨b1,o1+t,none⟩)),vf (.int .u16 (y0:Nat)),(λ_ _=>True),(λ_ _=>True),(λ_ _=>True),(λ_ _=>True),(λ_ _=>True)] [some 62,some 63,some 64,some 65,some 66,some 67,some 68,some 69,some 70,some 71,some 72,some 73,some 74,some 75,some 76,some 77,some 78,some 79,some 80,some 81,some 82,some 83,some 84,some 7] [62,63,64,65,66,67,68,69,70,71,72,73,74,75,76,77,78,79,80,81,82,83,84,7] [19,20,21,22,23] [[0,1,2,3],[0,1,2,3,4],[0,1,2,3,4],[0,1,2,3,4],[0,1,2,3,4],[0,1,2,3,4],[0,1,2,3,4],[0,1,2,3,4],[0,1,2,3,4],[0,1],[0,1,2,3,4],[0,1,2,3,4],[0,1,2,3,4],[0,1,2,3,4],[0,1,2,3,4],[0,1,2,3,4],[0,1,2,3,4],[0,1,2,3,4],[0,1],[0],[1],[2],[3],[4]] [none,none,none,none,none,none,none,none,none,none,none,none,none,none,none,none,none,none,none,none,none,none,none,none] (λp T W=>match p with|0=>BH we W/\T 7=vO|1=>(BH we W/\T 81=.agg #[.bool J2,.slice ao2 n2 Y2,.bool K2,.slice ap2 m2 Z2])/\T 7=vO|2=>(BH we W/\T 82=.agg #[.int .u16 (x0:Nat),.int .u16 (y0:Nat),.bool J2,.slice ao2 n2 Y2,.bool K2,.slice ap2 m2 Z2])/\T 7=vO|3=>(BH we W/\ShB W (T 83) ((x0,y0),Rat.divInt (x:Nat) (TT:Nat)))/\T 7=vO|4=>(BH w1 W/\za9 59 6 zaB W w1.heap.size (T 84) (L++[((x0,y0),Rat.divInt (x:Nat) (TT:Nat))]))/\T 7=vO|_+5=>(BH w1 W/\za9 59 6 zaB W w1.heap.size (T 84) (L++[((x0,y0),Rat.divInt (x:Nat) (TT:Nat))]))/\T 7=T 84) (by kernel_rfl) (by kernel_rfl) (by kernel_rfl) (by kernel_rfl) (of_decide_eq_true (by kernel_rfl)) (of_decide_eq_true (by kernel_rfl)) (by kernel_rfl) (by kernel_rfl) (⟨br.drew,rfl⟩) (λp T W W' h hb=>match p,h with|0,h=>⟨bu h.1 hb,h.2⟩|1,h=>⟨⟨bu h.1.1 hb,h.1.2⟩,h.2⟩|2,h=>⟨⟨bu h.1.1 hb,h.1.2⟩,h.2⟩|3,h=>⟨⟨bu h.1.1 hb,ShB.mono h.1.2 hb⟩,h.2⟩|4,h=>⟨⟨bu h.1.1 hb,h.1.2.mono zal hb⟩,h.2⟩|_+5,h=>⟨⟨bu h.1.1 hb,h.1.2.mono zal hb⟩,h.2⟩) (λp T T' W _ hT h=>match p,h with|0,h=>(by have e4:T' 7=T 7:=hT 4 (by decide);have h:BH we W/\T 7=vO:=h;show BH we W/\T' 7=vO;rw[e4];exact h)|1,h=>(by have e0:T' 81=T 81:=hT 0 (by decide);have e4:T' 7=T 7:=hT 4 (by decide);have h:(BH we W/\T 81=.agg #[.bool J2,.slice ao2 n2 Y2,.bool K2,.slice ap2 m2 Z2])/\T 7=vO:=h;show(BH we W/\T' 81=.agg #[.bool J2,.slice ao2 n2 Y2,.bool K2,.slice ap2 m2 Z2])/\T' 7=vO;rw[e0,e4];exact h)|2,h=>(by have e1:T' 82=T 82:=hT 1 (by decide);have e4:T' 7=T 7:=hT 4 (by decide);have h:(BH we W/\T 82=.agg #[.int .u16 (x0:Nat),.int .u16 (y0:Nat),.bool J2,.slice ao2 n2 Y2,.bool K2,.slice ap2 m2 Z2])/\T 7=vO:=h;show(BH we W/\T' 82=.agg #[.int .u16 (x0:Nat),.int .u16 (y0:Nat),.bool J2,.slice ao2 n2 Y2,.bool K2,.slice ap2 m2 Z2])/\T' 7=vO;rw[e1,e4];exact h)|3,h=>(by have e2:T' 83=T 83:=hT 2 (by decide);have e4:T' 7=T 7:=hT 4 (by decide);have h:(BH we W/\ShB W (T 83) ((x0,y0),Rat.divInt (x:Nat) (TT:Nat)))/\T 7=vO:=h;show(BH we W/\ShB W (T' 83) ((x0,y0),Rat.divInt (x:Nat) (TT:Nat)))/\T' 7=vO;rw[e2,e4];exact h)|4,h=>(by have e3:T' 84=T 84:=hT 3 (by decide);have e4:T' 7=T 7:=hT 4 (by decide);have h:(BH w1 W/\za9 59 6 zaB W w1.heap.size (T 84) (L++[((x0,y0),Rat.divInt (x:Nat) (TT:Nat))]))/\T 7=vO:=h;show(BH w1 W/\za9 59 6 zaB W w1.heap.size (T' 84) (L++[((x0,y0),Rat.divInt (x:Nat) (TT:Nat))]))/\T' 7=vO;rw[e3,e4];exact h)|_+5,h=>(by have e3:T' 84=T 84:=hT 3 (by decide);have e4:T' 7=T 7:=hT 4 (by decide);have h:(BH w1 W/\za9 59 6 zaB W w1.heap.size (T 84) (L++[((x0,y0),Rat.divInt (x:Nat) (TT:Nat))]))/\T 7=T 84:=h;show(BH w1 W/\za9 59 6 zaB W w1.heap.size (T' 84) (L++[((x0,y0),Rat.divInt (x:Nat) (TT:Nat))]))/\T' 7=T' 84;rw[e3,e4];exact h)) (Hb1.out) ⟨zac _ _,zac _ _,zac _ _,zac _ _,zac _ _,zac _ _,zac _ _,zac _ _,zac _ _,zac _ _,zac _ _,zac _ _,zac _ _,zac _ _,zac _ _,zac _ _,zac _ _,zac _ _,zac _ _,(λ_ _ _ h _=>h),(λ_ _ _ h _=>h),(λ_ _ _ h _=>h),(λ_ _ _ h _=>h),(λ_ _ _ h _=>h),trivial⟩ ⟨?s0,?s1,?s2,?s3,?s4,?s5,?s6,?s7,?s8,?s9,?s10,?s11,?s12,?s13,?s14,?s15,?s16,?s17,?s18,?s19,?s20,?s21,?s22,?s23,trivial⟩ ?he
      case' s0|s1|s2|s3|s4|s5|s6|s7|s8|s9|s10|s11|s12|s13|s14|s15|s16|s17|s18|s19|s20|s21|s22|s23=>
       rintro T W p hb hp hS hA K hK
      case' s1|s3|s4|s10|s12|s13=>
       clear hS;simp only[sA]at hK|-
      case' s2=>
       clear hS;have e1:T 63=_:=hA.1 rfl;obtain⟨k0,k1,k2,k3,k4,k5,k6⟩:=(r2.below hb).n7;simp only[sA,e1]at hK|-
      case' s5=>
       clear hS;have e4:T 66=_:=hA.1 rfl;obtain⟨k0,k1,k2,k3,k4,k5,k6⟩:=(r2.below hb).n7;simp only[sA,e4]at hK|-
      case' s6=>
       clear hS;have e5:T 67=_:=hA.1 rfl;simp only[sA,e5]at hK|-
      case' s7=>
       clear hS;have e3:T 65=_:=hA.1 rfl;have e6:T 68=_:=hA.2.1 rfl;simp only[sA,e3,e6]at hK|-
      case' s8=>
       clear hS;have e2:T 64=_:=hA.1 rfl;have e7:T 69=_:=hA.2.1 rfl;simp only[sA,e2,e7]at hK|-
      case' s9=>
       clear hS;have e8:T 70=_:=hA.1 rfl;have h0:=(hb.cell (zag hcx)).trans hcx;simp only[sA,e8]at hK|-
      case' s11=>
       clear hS;have e10:T 72=_:=hA.1 rfl;obtain⟨k0,k1,k2,k3,k4,k5,k6⟩:=(r2.below hb).n7;simp only[sA,e10]at hK|-
      case' s14=>
       clear hS;have e13:T 75=_:=hA.1 rfl;obtain⟨k0,k1,k2,k3,k4,k5,k6⟩:=(r2.below hb).n7;simp only[sA,e13]at hK|-
      case' s15=>
       clear hS;have e14:T 76=_:=hA.1 rfl;simp only[sA,e14]at hK|-
      case' s16=>
       clear hS;have e12:T 74=_:=hA.1 rfl;have e15:T 77=_:=hA.2.1 rfl;simp only[sA,e12,e15]at hK|-
      case' s17=>
       clear hS;have e11:T 73=_:=hA.1 rfl;have e16:T 78=_:=hA.2.1 rfl;simp only[sA,e11,e16]at hK|-
      case' s18=>
       clear hS;have e17:T 79=_:=hA.1 rfl;have h0:=(hb.cell (zag hcy)).trans hcy;simp only[sA,e17]at hK|-
      case s1|s2|s3|s4|s5|s6|s7|s8|s9|s10|s11|s12|s13|s14|s15|s16|s17|s18=>
       have HK:=hii hK;clear hK hA;refine wO rfl ?_;go_simp;exact HK.out _ _ ⟨λ_=>br,λh=>absurd h (zas (by decide) (by decide))⟩ (rfl)
      case s0=>
       have hp:p∈[0,1,2,3]:=hp;simp only[List.mem_cons,List.not_mem_nil,or_false]at hp;rcases hp with rfl|rfl|rfl|rfl
       ·have hS:BH we W/\T 7=vO:=hS;have eT:=hS.2;clear hS;clear hS;simp only[sA,eT]at hK|-;have HK:=hii hK;clear hK hA;refine wO rfl ?_;go_simp;exact HK.out _ _ ⟨λ_=>br,λh=>absurd h (zas (by decide) (by decide))⟩ (rfl)
       ·have hS:(BH we W/\T 81=.agg #[.bool J2,.slice ao2 n2 Y2,.bool K2,.slice ap2 m2 Z2])/\T 7=vO:=hS;have eT:=hS.2;clear hS;clear hS;simp only[sA,eT]at hK|-;have HK:=hii hK;clear hK hA;refine wO rfl ?_;go_simp;exact HK.out _ _ ⟨λ_=>br,λh=>absurd h (zas (by decide) (by decide))⟩ (rfl)
       ·have hS:(BH we W/\T 82=.agg #[.int .u16 (x0:Nat),.int .u16 (y0:Nat),.bool J2,.slice ao2 n2 Y2,.bool K2,.slice ap2 m2 Z2])/\T 7=vO:=hS;have eT:=hS.2;clear hS;clear hS;simp only[sA,eT]at hK|-;have HK:=hii hK;clear hK hA;refine wO rfl ?_;go_simp;exact HK.out _ _ ⟨λ_=>br,λh=>absurd h (zas (by decide) (by decide))⟩ (rfl)
       ·have hS:(BH we W/\ShB W (T 83) ((x0,y0),Rat.divInt (x:Nat) (TT:Nat)))/\T 7=vO:=hS;have eT:=hS.2;clear hS;clear hS;simp only[sA,eT]at hK|-;have HK:=hii hK;clear hK hA;refine wO rfl ?_;go_simp;exact HK.out _ _ ⟨λ_=>br,λh=>absurd h (zas (by decide) (by decide))⟩ (rfl)
      case s19=>
       obtain rfl:p=0:=by simpa using hp
       have hS:BH we W/\T 7=vO:=hS;obtain⟨f0,f1,f2,f3⟩:=(r9.below hS.1).n4;have eT:=hS.2;simp only[sA,eT]at hK|-;have HK:=hii hK;clear hK hA;refine wO rfl ?_;go_simp;exact HK.out _ _ ⟨λh=>absurd rfl h,λ_=>⟨⟨⟨hS.1,rfl⟩,hS.2⟩,br⟩⟩ (trivial)
      case s20=>
       obtain rfl:p=1:=by simpa using hp
       have hS:(BH we W/\T 81=.agg #[.bool J2,.slice ao2 n2 Y2,.bool K2,.slice ap2 m2 Z2])/\T 7=vO:=hS;have e9:T 71=_:=hA.1 rfl;have e18:T 80=_:=hA.2.1 rfl;have eQ:=hS.1.2;have eT:=hS.2;simp only[sA,e9,e18,eQ,eT]at hK|-;have HK:=hii hK;clear hK hA;refine wO rfl ?_;go_simp;exact HK.out _ _ ⟨λh=>absurd rfl h,λ_=>⟨⟨⟨hS.1.1,rfl⟩,hS.2⟩,br⟩⟩ (trivial)
      case s21=>
       obtain rfl:p=2:=by simpa using hp
       have hS:(BH we W/\T 82=.agg #[.int .u16 (x0:Nat),.int .u16 (y0:Nat),.bool J2,.slice ao2 n2 Y2,.bool K2,.slice ap2 m2 Z2])/\T 7=vO:=hS;have eQ:=hS.1.2;have eT:=hS.2;simp only[sA,eQ,eT]at hK|-;have HK:=hii hK;clear hK hA;refine wO rfl ?_;go_simp;obtain⟨w2,hw2⟩:∃w2,w2=W.alloc (.cells #[.int .u16 (x0:Nat),.int .u16 (y0:Nat),.bool J2,.slice ao2 n2 Y2,.bool K2,.slice ap2 m2 Z2] 59):=⟨_,rfl⟩;have hb1:BH W w2:=by rw[hw2];exact bA W _
       have hsh:=ziQ W (r:=x0) (s:=y0) (hV.mono hS.1.1);rw[<-hw2]at hsh;rw[<-hw2]
       try dsimp only
       exact HK.out _ _ ⟨λh=>absurd rfl h,λ_=>⟨⟨⟨bu hS.1.1 hb1,hsh⟩,hS.2⟩,hb1.mono hb.size⟩⟩ (trivial)
      case s22=>
       obtain rfl:p=3:=by simpa using hp
       have hS:(BH we W/\ShB W (T 83) ((x0,y0),Rat.divInt (x:Nat) (TT:Nat)))/\T 7=vO:=hS;have e0:T 62=_:=hA.1 rfl;simp only[sA,e0]at hK|-;have HK:=hii hK;clear hK hA;have hq:=hS.1.2;obtain⟨v9,w9,hr,ho,hbb⟩:=zd5 W W 37 w1.heap.size vO _ L ((x0,y0),Rat.divInt (x:Nat) (TT:Nat)) (HO.out.mono zal hS.1.1) hb.size br hq HLl.out;refine wO rfl ?_;refine zay _ _ rfl rfl rfl hr ?_;simp only[Act.put,List.setIfInBounds_toArray,List.set_cons_zero,List.set_cons_succ];exact HK.out _ _ ⟨λh=>absurd rfl h,λ_=>⟨⟨⟨hb.trans hbb,ho⟩,hS.2⟩,hbb⟩⟩ (trivial)
      case s23=>
       obtain rfl:p=4:=by simpa using hp
       have hS:(BH w1 W/\za9 59 6 zaB W w1.heap.size (T 84) (L++[((x0,y0),Rat.divInt (x:Nat) (TT:Nat))]))/\T 7=vO:=hS;have e0:T 62=_:=hA.2.2.1 rfl;have e1:T 63=_:=hA.2.2.2.1 rfl;have e2:T 64=_:=hA.2.2.2.2.1 rfl;have e3:T 65=_:=hA.2.2.2.2.2.1 rfl;have e4:T 66=_:=hA.2.2.2.2.2.2.1 rfl;have e5:T 67=_:=hA.2.2.2.2.2.2.2.1 rfl;have e6:T 68=_:=hA.2.2.2.2.2.2.2.2.1 rfl;have e7:T 69=_:=hA.2.2.2.2.2.2.2.2.2.1 rfl;have e8:T 70=_:=hA.2.2.2.2.2.2.2.2.2.2.1 rfl;have e9:T 71=_:=hA.2.2.2.2.2.2.2.2.2.2.2.1 rfl;have e10:T 72=_:=hA.2.2.2.2.2.2.2.2.2.2.2.2.1 rfl;have e11:T 73=_:=hA.2.2.2.2.2.2.2.2.2.2.2.2.2.1 rfl;have e12:T 74=_:=hA.2.2.2.2.2.2.2.2.2.2.2.2.2.2.1 rfl;have e13:T 75=_:=hA.2.2.2.2.2.2.2.2.2.2.2.2.2.2.2.1 rfl;have e14:T 76=_:=hA.2.2.2.2.2.2.2.2.2.2.2.2.2.2.2.2.1 rfl;have e15:T 77=_:=hA.2.2.2.2.2.2.2.2.2.2.2.2.2.2.2.2.2.1 rfl;have e16:T 78=_:=hA.2.2.2.2.2.2.2.2.2.2.2.2.2.2.2.2.2.2.1 rfl;have e17:T 79=_:=hA.2.2.2.2.2.2.2.2.2.2.2.2.2.2.2.2.2.2.2.1 rfl;have e18:T 80=_:=hA.2.2.2.2.2.2.2.2.2.2.2.2.2.2.2.2.2.2.2.2.1 rfl;have hS2:=hS.1;have eT:=hS.2;simp only[sA,e0,e1,e2,e3,e4,e5,e6,e7,e8,e9,e10,e11,e12,e13,e14,e15,e16,e17,e18,eT]at hK|-;have HK:=hii hK;clear hK hA;refine wO rfl ?_;go_simp;exact HK.out (T 84) _ ⟨λh=>absurd rfl h,λ_=>⟨⟨hS2,rfl⟩,br⟩⟩ (trivial)
      case he=>
       rintro T W hb hS hA;have hS:(BH w1 W/\za9 59 6 zaB W w1.heap.size (T 84) (L++[((x0,y0),Rat.divInt (x:Nat) (TT:Nat))]))/\T 7=T 84:=hS;simp only[sA];obtain⟨⟨Hb9,hO9⟩,e7⟩:=hS;rw[<-e7]at hO9;obtain⟨v9,hv9⟩:∃v,T 7=v:=⟨_,rfl⟩;rw[hv9]at hO9|-;clear hA e7 hv9;go_wp2;go_roundw
       case rel=>exact⟨i+1,by omega,by go_num,by rw[hTT]at HL2 hO9;rw[HL2.out];exact hO9,hii Hb9⟩
       case measure=>simp[intOf];omega
     ·have hil:¬(i:Int)<(nL:Int):=by omega
      obtain rfl:i=nL:=by omega
      subst eO;clear hOr;go_wp2;go_ret;exact⟨⟨_,rfl,by rw[HSt.out];exact hO.base hbw.size⟩,Below.step hbw Hb1.out nl⟩
theorem znN(p:Nat->Rat)(n:Nat)(out:LN)(i:Nat):p i*(((n:Int):Rat))-(((out.count i:Nat):Int):Rat)=zbq p n out i:=by
 unfold zbq;rw[Rat.mul_comm];rfl
theorem zlQ{sh:List ((Nat×Nat)×Rat)}{i:Nat}{s:(Nat×Nat)×Rat}(h:sh[i]?=some s):(sh.getD i ((0,0),0)).2=s.2:=by rw[List.getD_eq_getElem?_getD,h];rfl
theorem zh2:zhh (some 1)=0:=by decide+kernel
theorem zhQ{l:LN}{j x:Nat}(h:l[j]?=some x)(i:Nat):(l.take (j+1)).count i=(l.take j).count i+if x=i then 1 else 0:=by
 rw[List.take_add_one,h,List.count_append]
 congr 1
 show List.count i [x]=_
 rw[List.count_singleton]
 by_cases hx:x=i<;>simp[hx]
theorem Row.n6s{w:Wo}{g:Nat}{E:TypeId}{a b c d e f:Vl}(h:Row w g E [a,b,c,d,e,f]):w.cell? (aD_ g 2)=some c/\w.cell? (aD_ g 3)=some d/\w.cell? (aD_ g 4)=some e/\w.cell? (aD_ g 5)=some f :=
 ⟨h.cell (k:=2) (by simp),h.cell (k:=3) (by simp),h.cell (k:=4) (by simp),h.cell (k:=5) (by simp)⟩
theorem zfF(l:LN)(k:Nat)(aL:OA)(cL:Nat)(w:Wo)(hl:l.length<=9223372036854775807)(hk:k<256)(uL:ByU w aL l)(H8:Hid (∀x∈l,x<256))(hE:Env w) :
  CP 5 #[.slice aL l.length cL,.int .u8 (k:Nat)] w λe w'=>e=.returned (.bool true)/\BH w w':=by
 have hbw:=Below.refl w.heap.size w;have Hln:=hii (λ(h:¬10<l.length)=>zgY (zaZ [] 2) (wrN (zaZ [] 2) (zaZ [] 2)) (l:=l) (by omega));have HSd:=hii (λ(h:¬10<l.length)=>zkk (zaZ [] 2) (wrN (zaZ [] 2) (zaZ [] 2)) (l:=l) (by omega) (λx hx=>by have:=H8.out x hx;omega));have HSm:=hii (zkj (zaZ [] 2) (wrN (zaZ [] 2) (zaZ [] 2)) l);have HWk:=hii (zgQ [] [] [] 0 (n:=2) (by decide));have HM:Hid (∀w,Env w->CP 9 #[.agg #[.int .u8 0,nS_,nS_,.int .u8 0,nS_]] w λe w'=>zn9 w' w.heap.size (zaZ [] 2) (wrN (zaZ [] 2) (zaZ [] 2)) (fN 0) (zen [] 2) e/\BH w w'):=hii (λw hE=>zhb 0 0 [] [] [] 2 (hii rfl) none none none 0 0 0 w (by decide) (by decide) (by decide) (by decide) (by decide) zaR.nil zaR.nil (λi x h=>by simp at h) (hii λx h=>by simp at h) (hii λx h=>by simp at h) (hii λx h=>by simp at h) hE);obtain⟨R,hR⟩:∃R,zaZ [] 2=R:=⟨_,rfl⟩;obtain⟨S,hS⟩:∃S,wrN R (zaZ [] 2)=S:=⟨_,rfl⟩;obtain⟨f,hf⟩:∃f,fN 0=f:=⟨_,rfl⟩;obtain⟨cap,hcap⟩:∃c,zen [] 2=c:=⟨_,rfl⟩;rw[hR]at HWk HM Hln HSd HSm hS;rw[hS]at Hln HSd HSm;rw[hS,hf,hcap]at HWk HM;obtain⟨nL,hnL⟩:∃n,l.length=n:=⟨_,rfl⟩;have HnL:=hii hnL;rw[hnL]at hl Hln HSd|-;clear hR hS hf hcap hnL;go_enter func5,ntmps5;go_wp2_with fail;go_fit (zc3 w hE);rintro e w1⟨rfl,hb⟩;have uL:=uL.mono hb;have hE:=hE.mono hb;have hbw:=bu hbw hb;clear hb
 by_cases h10:10<nL
 ·have hd:decide ((10:Int)<(nL:Int))=true:=decide_eq_true (by omega);have hd2:(10:Int)<(nL:Int):=by omega
  go_wp2_with fail;go_fit (zc3 w1 hE);rintro e w2⟨rfl,hb⟩;have hbw:=bu hbw hb;clear hb;go_wp2;go_ret;exact⟨rfl,hbw⟩
 have hd2:¬(10:Int)<(nL:Int):=by omega
 have Hln:=hii (Hln.out h10);have HSd:=hii (HSd.out h10);have hl10:l.length<=10:=by rw[HnL.out];omega
 clear h10 hl;go_wp2_with fail;go_fit (HM.out w1 hE);rintro e w2⟨⟨aR1,cR1,aS1,cS1,J1,ao1,n1,Y1,K1,ap1,m1,Z1,aC1,cC1,rfl,-,-,uR1,uS1,-,-⟩,hb⟩;have uL:=uL.mono hb;have hE:=hE.mono hb;have hbw:=bu hbw hb;clear hb;have HSt:=hii (zfv R S l aR1 aS1 aL aC1 cR1 cS1 cL cap.length cC1 w2 (J1:=J1) (ao1:=ao1) (n1:=n1) (Y1:=Y1) (K1:=K1) (ap1:=ap1) (m1:=m1) (Z1:=Z1) hl10 HWk.out.fR.len HWk.out.fS.len uR1 uS1 uL H8 hE);rw[HnL.out]at HSt;obtain⟨sh,hsh⟩:∃sh,zgZ R S l=sh:=⟨_,rfl⟩;rw[hsh]at HSt Hln HSd HSm;clear HM hl10 uL uR1 uS1 hsh;go_wp2_with fail;(with_reducible refine HSt.out.mono ?_);rintro e w3⟨⟨v,rfl,hO⟩,hb⟩;obtain⟨aS,cS,rfl,-,uS⟩:=hO.read;have hE:=hE.mono hb;have hbw:=bu hbw hb;clear hb;clear HSt hO;obtain⟨NN,hN⟩:∃n,sh.length=n:=⟨_,rfl⟩;have HN:=hii hN;have hN10:1<=NN/\NN<=10:=by rw[<-hN];exact Hln.out
 rw[hN];obtain⟨D,hD1,hD2,hD⟩:=HSd.out;have HD:=hii hD;obtain⟨p,hp⟩:∃p:Nat->Rat,p=λi=>(sh.getD i ((0,0),0)).2:=⟨_,rfl⟩
 have Hp:Hid (∀(i:Nat)(s:(Nat×Nat)×Rat),sh[i]?=some s->s.2=p i):=hii λi s h=>by rw[hp];exact(zlQ h).symm
 have Hpp:Hid (∀i,i<NN->0<=p i/\Sx.Wh (p i*(D:Rat)) 255):=hii λi hi=>by
  have hx:=gE (l:=sh) (i:=i) (by rw[hN];exact hi);have hm:=List.getElem_mem (l:=sh) (n:=i) (by rw[hN];exact hi);have e:=Hp.out i _ hx;rw[<-e];exact⟨HD.out.pos _ hm,HD.out.wh _ hm⟩
 have HK:Hid (zn0 p NN):=hii (ziU (D:=D) (M:=255) (by omega) (λi hi=>(Hpp.out i hi).2) (by
  have h1:D.natAbs<=2550:=by omega
  have h2:60*255+60*2550<=KK:=by decide
  omega))
 have HS1:Hid (Du.sm NN p=1):=hii (by
  have h1:=HSm.out;rw[zbw sh (·.2) p (λi s h=>(Hp.out i s h).symm),HN.out]at h1;exact h1)
 have HP:Hid (zbk ((shQ sh).map (·.2))=0):=hii (by rw[HD.out.parts,HSm.out];exact zh2);clear hp hN hD hD1 hD2 HSd HSm Hln;obtain⟨n,hn⟩:∃n:Nat,k % 61=n:=⟨_,rfl⟩;have hn60:n<=60:=by rw[<-hn];have:=Nat.mod_lt k (show 0<61 by decide);omega
 have hkn:(k:Int) % 61=(n:Int):=by rw[<-hn];rfl
 have HSc:=hii (zdQ sh p n aS cS w3 hn60 (by rw[HN.out];exact hN10.1) (by rw[HN.out];omega) Hp (by rw[HN.out];exact HK) HP (uS.shareQ) hE);rw[HN.out]at HSc;have Hfa:=hii (λi hi=>zoX hN10.1 (λi hi=>(Hpp.out i hi).1) HS1.out n i hi);have Hsl:Hid ((zbG p NN n).length=n):=hii (zdg p NN n);obtain⟨ms,hms⟩:∃m,zbG p NN n=m:=⟨_,rfl⟩;rw[hms]at HSc Hfa Hsl;clear hms hn hk;go_wp2_with fail;(with_reducible refine HSc.out.mono ?_);rintro e w4⟨⟨ao,co,rfl,uM⟩,hb⟩;have uS:=uS.mono zal hb;have hE:=hE.mono hb;have hbw:=bu hbw hb;clear hb;clear HSc hkn;have hb4:=Below.refl w4.heap.size w4;have hnz:((n:Int) != (n:Int))=false:=by simp
 go_wp2_with fail;go_loopw [53] (λs wr=>∃i:Nat,i<=NN/\s=.int .i64 i/\Hid (BH w4 wr)) (λs _=>NN-(intOf s).toNat)
 case atStart=>exact⟨0,Nat.zero_le _,rfl,hii hb4⟩
 case round=>
  clear hb4;obtain⟨i,hi,rfl,Hb4⟩:=hrel
  by_cases hlt:i<NN
  ·have hiN:(i:Int)<(NN:Int):=by omega
   obtain⟨s,hs⟩:∃x,sh[i]?=some x:=⟨sh[i]'(by rw[HN.out];exact hlt),gE _⟩;obtain⟨b5,off5,c5,ea,hc6,hcs,hq5⟩:=(uS.mono zal Hb4.out) i s hs;have Hpi:=Hp.out i s hs;obtain⟨J2,ao2,n2,Y2,K2,ap2,m2,Z2,ec5,hv5⟩:=hq5;obtain⟨⟨r5,s5⟩,x5⟩:=s;have hx5:x5=p i:=Hpi;subst hx5;subst ec5;have c0:=hcs 0 _ rfl;have c1:=hcs 1 _ rfl;have c2:=hcs 2 _ rfl;have c3:=hcs 3 _ rfl;have c4:=hcs 4 _ rfl;have c5:=hcs 5 _ rfl;simp only[<-Nat.add_assoc,Nat.add_zero]at c0 c1 c2 c3 c4 c5;have hv5:zad wr (qA J2 ao2 n2 Y2 K2 ap2 m2 Z2) (p i):=hv5;have uMr:=uM.mono zaP Hb4.out;have hEr:=hE.mono Hb4.out;have Hfi:=hii (Hfa.out i hlt);have HKi:=hii (HK.out.1 i hlt);have HKu:=hii (HK.out.2 i hlt);subst ea;clear hs hcs hc6 Hpi;go_upto_region 11 with fail;clear c0 c1 c2 c3 c4 c5;have hbw0:=hbw;have hbw:=Below.refl wr.heap.size wr;obtain⟨wc,g10,hw9,hg9,hb,r10⟩:=bxr wr [.int .u16 (r5:Nat),.int .u16 (s5:Nat),.bool J2,.slice ao2 n2 Y2,.bool K2,.slice ap2 m2 Z2] 59;rw[<-hw9,<-hg9];have Hg10:Hid (wr.heap.size<=g10):=hii (by have:=hbw.size;omega);clear hw9 hg9;have hv5:=hv5.mono hb;have hEr:=hEr.mono hb;have uMr:=uMr.mono zaP hb;have hbr:=Below.step Hb4.out hb nl;clear hb hbw;have hbw:=hbw0;clear hbw0;have HL:=hii hbr;have hbq:=Below.refl wc.heap.size wc;go_wp2_with fail;go_loopw [11,60] (λu s wr=>∃j:Nat,j<=n/\s=.int .i64 j/\u=.int .i64 ((ms.take j).count i:Nat)/\wc=wr) (λ_ s _=>n-(intOf s).toNat)
   case atStart=>exact⟨0,Nat.zero_le _,rfl,rfl,by trivial⟩
   case round=>
    clear hbq;obtain⟨j,hj,rfl,rfl,rfl⟩:=hrel
    by_cases hlj:j<n
    ·have hjn:(j:Int)<(n:Int):=by omega
     obtain⟨x,hx⟩:∃x,ms[j]?=some x:=⟨ms[j]'(by rw[Hsl.out];exact hlj),gE _⟩;obtain⟨b6,off6,c6,ea6,-,hcs6,hq6⟩:=uMr j x hx;have hc:=hcs6 0 (.int .i64 (x:Nat)) (by rw[hq6];rfl);rw[Nat.mul_one,Nat.add_zero]at hc;have HT:=hii (zhQ hx i);have hcl:(ms.take j).count i<=60:=Nat.le_trans List.count_le_length (by simp;omega);obtain⟨cj,hcj⟩:∃c,(ms.take j).count i=c:=⟨_,rfl⟩;rw[hcj]at HT hcl|-;subst ea6;clear hx hcs6 hq6 hcj
     by_cases hxi:x=i
     ·have hxe:((x:Int)==(i:Int))=true:=by simp;omega
      have HT:Hid ((ms.take (j+1)).count i=cj+1):=hii (by rw[HT.out,if_pos hxi]);clear hxi;go_wp2;go_roundw
      case rel=>exact⟨j+1,by omega,by go_num,by rw[HT.out];go_num,by trivial⟩
      case measure=>simp[intOf];omega
     ·have hxe:((x:Int)==(i:Int))=false:=by simp;omega
      have HT:Hid ((ms.take (j+1)).count i=cj):=hii (by rw[HT.out,if_neg hxi,Nat.add_zero]);clear hxi;go_wp2;go_roundw
      case rel=>exact⟨j+1,by omega,by go_num,by rw[HT.out],by trivial⟩
      case measure=>simp[intOf];omega
    ·have hjn:¬(j:Int)<(n:Int):=by omega
     obtain rfl:j=n:=by omega
     have HTk:Hid (ms.take j=ms):=hii (List.take_of_length_le (by rw[Hsl.out];exact nl));rw[HTk.out];have hcl:ms.count i<=60:=Nat.le_trans List.count_le_length (by rw[Hsl.out];exact hn60);have HBe:=hii (znN p j ms i);have HKd:=hii (HKu.out j (ms.count i) hn60 hcl);rw[show(j:Rat)*p i-((ms.count i:Nat):Rat)=p i*((j:Int):Rat)-(((ms.count i:Nat):Int):Rat) by rw[Rat.mul_comm];rfl]at HKd;rw[<-HBe.out]at Hfi;obtain⟨u,hu⟩:∃u,ms.count i=u:=⟨_,rfl⟩;rw[hu]at hcl HKd Hfi|-;have HM1:Hid (zdX (p i) ((j:Int):Rat)):=hii (HKi.out.mulS (za6 (K:=60) ⟨(j:Int),rfl,by omega⟩ (by decide)) (by decide));have HKj:Hid (Kb 2 (p i*((j:Int):Rat))):=hii (HKi.out.mul (za6 (K:=60) ⟨(j:Int),rfl,by omega⟩ (by decide)));have HKn:Hid (Kb 1 (((u:Nat):Int):Rat)):=hii (za6 (K:=60) ⟨((u:Nat):Int),rfl,by omega⟩ (by decide));have HKN:Hid (Kb 1 (((NN:Nat):Int):Rat)/\Kb 1 (((-((NN:Nat):Int)):Int):Rat)):=hii ⟨za6 (K:=60) ⟨((NN:Nat):Int),rfl,by omega⟩ (by decide),za6 (K:=60) ⟨-((NN:Nat):Int),rfl,by omega⟩ (by decide)⟩;clear hu HBe HTk HKu Hfa;obtain⟨wd,rfl⟩:=exi wc;go_wp2_with fail;go_upto_region 18 with fail;refine zap (wx:=wd) (λ_=>False) [(λ_ X _=>X 0=pT g10 2),(λ_ X _=>X 1=.agg #[.bool J2,.slice ao2 n2 Y2,.bool K2,.slice ap2 m2 Z2]),(λ_ X _=>X 2=.int .i64 (j:Nat)),(λG X W=>((FQ ((j:Int):Rat)):(Nat->Prop)->Wo->Vl->Prop) G W (X 3)),(λG X W=>((λ_ W v=>∃a,v=.tuple #[a,.int .i64 0]/\zad W a (p i*((j:Int):Rat))):(Nat->Prop)->Wo->Vl->Prop) G W (X 4)),(λG X W=>((λ_ W v=>∃a,v=.tuple #[a,.int .i64 0]/\zad W a (p i*((j:Int):Rat))):(Nat->Prop)->Wo->Vl->Prop) G W (X 5)),(λG X W=>((FQ (p i*((j:Int):Rat))):(Nat->Prop)->Wo->Vl->Prop) G W (X 6)),(λ_ X _=>X 7=.int .i64 0),(λ_ _ _=>True),(λ_ _ _=>True),(λ_ X _=>X 10=.int .i64 0)] [some 71,some 72,some 73,some 74,some 75,some 70,some 76,some 77,some 14,none,some 15] [none,none,none,none,none,none,none,none,some ⟨9,6,32,[bF_,nS_,bF_,nS_]⟩,none,none] [71,72,73,74,75,70,76,77,14,15] ⟨(by intro u hu k z e;subst e;simp at hu),trivial⟩ (λb h=>h) br ⟨zab _ _ _,zab _ _ _,zab _ _ _,zaY _,(zat (F:=λ_ W v=>∃a,v=.tuple #[a,.int .i64 0]/\zad W a (p i*((j:Int):Rat))) λG G' W W' v ⟨a,e,h⟩ hk hn hG=>⟨a,e,h.kept hk hn⟩),(zat (F:=λ_ W v=>∃a,v=.tuple #[a,.int .i64 0]/\zad W a (p i*((j:Int):Rat))) λG G' W W' v ⟨a,e,h⟩ hk hn hG=>⟨a,e,h.kept hk hn⟩),zaY _,zab _ _ _,zan _,zan _,zab _ _ _,trivial⟩ ⟨⟨λ_ _ _=>trivial,λ_ _ _=>trivial⟩,trivial⟩ ⟨?s0,?s1,?s2,?s3,?s4,?s5,?s6,?s7,?s8,?s9,?s10,trivial⟩ ⟨?b8,trivial⟩ ?he
     case' s0|s1|s2|s3|s4|s5|s6|s7=>
      rintro-G T W hb hHG hGW hGo hNG hA K hK
     case' s0|s2=>
      simp only[sA]at hK|-
     case' s1=>
      have e0:T 71=_:=hA.1;obtain⟨k0,k1,k2,k3⟩:=(r10.below hb).n6s;simp only[sA,e0]at hK|-
     case' s7=>
      have r5:((λ_ W v=>∃a,v=.tuple #[a,.int .i64 0]/\zad W a (p i*((j:Int):Rat))):(Nat->Prop)->Wo->Vl->Prop) G W (T 70):=hA.1;obtain⟨a6,e5,h6⟩:=r5;simp only[sA,e5]at hK|-
     case s0|s1|s2|s7=>
      have HK:=hii hK;clear hK hA;refine wO rfl ?_;go_simp;exact HK.out _ _ br λX hX _=>hX
     case s3=>
      simp only[sA,f0 T 73 hA]at hK|-;have HK:=hii hK;clear hK hA;refine wO rfl ?_;go_simp;go_fit (za0 (j:Int) 1 W (by omega) (by omega) (by decide) (by decide) (hii (by decide)) (hEr.mono hb));rintro e w1⟨hz,hb1⟩;rw[divInt_one]at hz;obtain⟨J7,ao7,n7,Y7,K7,ap7,m7,Z7,rfl,hV7⟩:=hz.rat
      try dsimp only
      exact HK.out _ _ (hb1) λX hX _=>by
       show((FQ ((j:Int):Rat)):(Nat->Prop)->Wo->Vl->Prop) G _ (X 3)
       rw[hX];exact hV7
     case s4=>
      have e1:T 72=_:=hA.1;have r3:((FQ ((j:Int):Rat)):(Nat->Prop)->Wo->Vl->Prop) G W (T 74):=hA.2.1;have r3:zad W _ ((j:Int):Rat):=r3;obtain⟨J8,ao8,n8,Y8,K8,ap8,m8,Z8,e3⟩:=r3.parts;rw[e3]at r3;simp only[sA,e1,e3]at hK|-;have HK:=hii hK;clear hK hA;refine wO rfl ?_;go_simp;go_fit (znn _ _ (p i) ((j:Int):Rat) W (hv5.mono hb) r3 HM1 (hEr.mono hb));rintro e w1⟨hz,hb1⟩;obtain⟨J7,ao7,n7,Y7,K7,ap7,m7,Z7,rfl,hV7⟩:=hz.rat
      try dsimp only
      exact HK.out _ _ (hb1) λX hX _=>by
       show((λ_ W v=>∃a,v=.tuple #[a,.int .i64 0]/\zad W a (p i*((j:Int):Rat))):(Nat->Prop)->Wo->Vl->Prop) G _ (X 4)
       rw[hX];exact⟨_,rfl,hV7⟩
     case s5=>
      have r4:((λ_ W v=>∃a,v=.tuple #[a,.int .i64 0]/\zad W a (p i*((j:Int):Rat))):(Nat->Prop)->Wo->Vl->Prop) G W (T 75):=hA.1;obtain⟨a6,e4,h6⟩:=r4;simp only[sA,e4]at hK|-;have HK:=hii hK;clear hK hA;refine wO rfl ?_;go_simp;exact HK.out _ _ br λX hX _=>by
       show((λ_ W v=>∃a,v=.tuple #[a,.int .i64 0]/\zad W a (p i*((j:Int):Rat))):(Nat->Prop)->Wo->Vl->Prop) G _ (X 5)
       rw[hX];exact⟨_,rfl,h6⟩
     case s6=>
      have r5:((λ_ W v=>∃a,v=.tuple #[a,.int .i64 0]/\zad W a (p i*((j:Int):Rat))):(Nat->Prop)->Wo->Vl->Prop) G W (T 70):=hA.1;obtain⟨a6,e5,h6⟩:=r5;simp only[sA,e5]at hK|-;have HK:=hii hK;clear hK hA;refine wO rfl ?_;go_simp;exact HK.out _ _ br λX hX _=>by
       show((FQ (p i*((j:Int):Rat))):(Nat->Prop)->Wo->Vl->Prop) G _ (X 6)
       rw[hX];exact h6
     case s8=>exact λh=>absurd h (by decide)
     case s9=>exact λh=>absurd h (by decide)
     case s10=>
      rintro-G T W hb hHG hGW hGo hNG hA K hK;simp only[sA,f0 T 77 hA]at hK|-;have HK:=hii hK;clear hK hA;refine wO rfl ?_;go_simp;exact HK.out _ _ br λX hX _=>hX
     case b8=>
      refine⟨?_,?_⟩
      ·rintro o ho T W K hK;obtain rfl:=Option.some.inj ho;simp only[sA]at hK|-;have HK:=hii hK;clear hK ho;refine wO rfl ?_;go_simp;exact HK.out
      ·rintro o ho G T W nb hA hp hrow K hK;obtain rfl:=Option.some.inj ho;have ep:T 14=.pointer (sD nb 0):=hp;have r6:((FQ (p i*((j:Int):Rat))):(Nat->Prop)->Wo->Vl->Prop) G W (T 76):=hA.2.1;have r6:zad W _ (p i*((j:Int):Rat)):=r6;obtain⟨J8,ao8,n8,Y8,K8,ap8,m8,Z8,e6⟩:=r6.parts;have hK:=hK [.bool J8,.slice ao8 n8 Y8,.bool K8,.slice ap8 m8 Z8] (.inl e6) rfl (by intro u hu k z e;subst e;simp at hu);simp only[sA,ep,e6]at hK|-;have HK:=hii hK;clear hK hA ho;have q0:=hrow.cell (k:=0) (by simp);have f0:=hrow.free 0;have q1:=hrow.cell (k:=1) (by simp);have f1:=hrow.free 1;have q2:=hrow.cell (k:=2) (by simp);have f2:=hrow.free 2;have q3:=hrow.cell (k:=3) (by simp);have f3:=hrow.free 3;simp only[List.getElem_cons_zero,List.getElem_cons_succ]at q0 q1 q2 q3;refine wO rfl ?_;go_simp;exact HK.out
     case he=>
      rintro GG N T W hb hHG hGW hGo hbox hNG hne hA;have fv:((FQ (p i*((j:Int):Rat))):(Nat->Prop)->Wo->Vl->Prop) GG W (T 76):=hA.at 6 (by decide);have f10:T 15=.int .i64 0:=hA.at 10 (by decide);obtain⟨ep,_,hge,vs,hsto,hrow⟩:=hbox 8 _ rfl;have ep:T 14=.pointer (some ⟨N 8,0,none⟩):=ep;have fv:zad W _ (p i*((j:Int):Rat)):=fv;obtain⟨J3,ao3,n3,Y3,K3,ap3,m3,Z3,e5⟩:=fv.parts;obtain rfl:=hsto.four e5;rw[e5]at fv;simp only[sA,ep,f10];obtain⟨g14,hg⟩:∃g,g=N 8:=⟨_,rfl⟩;rw[<-hg]at hrow hge|-;have Hg14:=hii hge;clear hA hbox hNG hne hHG hGW hGo ep f10 hsto hge e5 hg;have HL:=hii (Below.step HL.out hb nl);have hEr:=hEr.mono hb;clear hb r10 hv5;obtain⟨we,rfl⟩:=exi W;have r14:Row we g14 32 [.bool J3,.slice ao3 n3 Y3,.bool K3,.slice ap3 m3 Z3]:=hrow;clear hrow;have HSu:Hid (zj0 (p i*((j:Int):Rat)) (((u:Nat):Int):Rat)):=hii (HKj.out.subS HKn.out (by decide));go_upto_region 19 with fail;refine zap (wx:=we) (λ_=>False) [(λ_ X _=>X 0=.agg #[.bool J3,.slice ao3 n3 Y3,.bool K3,.slice ap3 m3 Z3]),(λ_ X _=>X 1=.int .i64 (u:Nat)),(λG X W=>((FQ (((u:Nat):Int):Rat)):(Nat->Prop)->Wo->Vl->Prop) G W (X 2)),(λG X W=>((λ_ W v=>∃a,v=.tuple #[a,.int .i64 0]/\zad W a (p i*((j:Int):Rat)-(((u:Nat):Int):Rat))):(Nat->Prop)->Wo->Vl->Prop) G W (X 3)),(λG X W=>((λ_ W v=>∃a,v=.tuple #[a,.int .i64 0]/\zad W a (p i*((j:Int):Rat)-(((u:Nat):Int):Rat))):(Nat->Prop)->Wo->Vl->Prop) G W (X 4)),(λG X W=>((FQ (p i*((j:Int):Rat)-(((u:Nat):Int):Rat))):(Nat->Prop)->Wo->Vl->Prop) G W (X 5)),(λ_ X _=>X 6=.int .i64 0),(λ_ _ _=>True),(λ_ _ _=>True),(λ_ X _=>X 9=.int .i64 0)] [some 79,some 80,some 81,some 82,some 78,some 83,some 84,some 16,none,some 17] [none,none,none,none,none,none,none,some ⟨8,5,32,[bF_,nS_,bF_,nS_]⟩,none,none] [79,80,81,82,78,83,84,16,17] ⟨(by intro u hu k z e;subst e;simp at hu),trivial⟩ (λb h=>h) br ⟨zab _ _ _,zab _ _ _,zaY _,(zat (F:=λ_ W v=>∃a,v=.tuple #[a,.int .i64 0]/\zad W a (p i*((j:Int):Rat)-(((u:Nat):Int):Rat))) λG G' W W' v ⟨a,e,h⟩ hk hn hG=>⟨a,e,h.kept hk hn⟩),(zat (F:=λ_ W v=>∃a,v=.tuple #[a,.int .i64 0]/\zad W a (p i*((j:Int):Rat)-(((u:Nat):Int):Rat))) λG G' W W' v ⟨a,e,h⟩ hk hn hG=>⟨a,e,h.kept hk hn⟩),zaY _,zab _ _ _,zan _,zan _,zab _ _ _,trivial⟩ ⟨⟨λ_ _ _=>trivial,λ_ _ _=>trivial⟩,trivial⟩ ⟨?s0,?s1,?s2,?s3,?s4,?s5,?s6,?s7,?s8,?s9,trivial⟩ ⟨?b7,trivial⟩ ?he
      case' s0|s1|s2|s3|s4|s5|s6=>
       rintro-G T W hb hHG hGW hGo hNG hA K hK
      case' s0=>
       obtain⟨k0,k1,k2,k3⟩:=(r14.below hb).n4;simp only[sA]at hK|-
      case' s1=>
       simp only[sA]at hK|-
      case' s6=>
       have r4:((λ_ W v=>∃a,v=.tuple #[a,.int .i64 0]/\zad W a (p i*((j:Int):Rat)-(((u:Nat):Int):Rat))):(Nat->Prop)->Wo->Vl->Prop) G W (T 78):=hA.1;obtain⟨a6,e4,h6⟩:=r4;simp only[sA,e4]at hK|-
      case s0|s1|s6=>
       have HK:=hii hK;clear hK hA;refine wO rfl ?_;go_simp;exact HK.out _ _ br λX hX _=>hX
      case s2=>
       simp only[sA,f0 T 80 hA]at hK|-;have HK:=hii hK;clear hK hA;refine wO rfl ?_;go_simp;go_fit (za0 ((u:Nat):Int) 1 W (by omega) (by omega) (by decide) (by decide) (hii (by decide)) (hEr.mono hb));rintro e w1⟨hz,hb1⟩;rw[divInt_one]at hz;obtain⟨J7,ao7,n7,Y7,K7,ap7,m7,Z7,rfl,hV7⟩:=hz.rat
       try dsimp only
       exact HK.out _ _ (hb1) λX hX _=>by
        show((FQ (((u:Nat):Int):Rat)):(Nat->Prop)->Wo->Vl->Prop) G _ (X 2)
        rw[hX];exact hV7
      case s3=>
       have e0:T 79=_:=hA.1;have r2:((FQ (((u:Nat):Int):Rat)):(Nat->Prop)->Wo->Vl->Prop) G W (T 81):=hA.2.1;have r2:zad W _ (((u:Nat):Int):Rat):=r2;obtain⟨J8,ao8,n8,Y8,K8,ap8,m8,Z8,e2⟩:=r2.parts;rw[e2]at r2;simp only[sA,e0,e2]at hK|-;have HK:=hii hK;clear hK hA;refine wO rfl ?_;go_simp;go_fit (znl _ _ (p i*((j:Int):Rat)) (((u:Nat):Int):Rat) W (fv.mono hb) r2 HSu (hEr.mono hb));rintro e w1⟨hz,hb1⟩;obtain⟨J7,ao7,n7,Y7,K7,ap7,m7,Z7,rfl,hV7⟩:=hz.rat
       try dsimp only
       exact HK.out _ _ (hb1) λX hX _=>by
        show((λ_ W v=>∃a,v=.tuple #[a,.int .i64 0]/\zad W a (p i*((j:Int):Rat)-(((u:Nat):Int):Rat))):(Nat->Prop)->Wo->Vl->Prop) G _ (X 3)
        rw[hX];exact⟨_,rfl,hV7⟩
      case s4=>
       have r3:((λ_ W v=>∃a,v=.tuple #[a,.int .i64 0]/\zad W a (p i*((j:Int):Rat)-(((u:Nat):Int):Rat))):(Nat->Prop)->Wo->Vl->Prop) G W (T 82):=hA.1;obtain⟨a6,e3,h6⟩:=r3;simp only[sA,e3]at hK|-;have HK:=hii hK;clear hK hA;refine wO rfl ?_;go_simp;exact HK.out _ _ br λX hX _=>by
        show((λ_ W v=>∃a,v=.tuple #[a,.int .i64 0]/\zad W a (p i*((j:Int):Rat)-(((u:Nat):Int):Rat))):(Nat->Prop)->Wo->Vl->Prop) G _ (X 4)
        rw[hX];exact⟨_,rfl,h6⟩
      case s5=>
       have r4:((λ_ W v=>∃a,v=.tuple #[a,.int .i64 0]/\zad W a (p i*((j:Int):Rat)-(((u:Nat):Int):Rat))):(Nat->Prop)->Wo->Vl->Prop) G W (T 78):=hA.1;obtain⟨a6,e4,h6⟩:=r4;simp only[sA,e4]at hK|-;have HK:=hii hK;clear hK hA;refine wO rfl ?_;go_simp;exact HK.out _ _ br λX hX _=>by
        show((FQ (p i*((j:Int):Rat)-(((u:Nat):Int):Rat))):(Nat->Prop)->Wo->Vl->Prop) G _ (X 5)
        rw[hX];exact h6
      case s7=>exact λh=>absurd h (by decide)
      case s8=>exact λh=>absurd h (by decide)
      case s9=>
       rintro-G T W hb hHG hGW hGo hNG hA K hK;simp only[sA,f0 T 84 hA]at hK|-;have HK:=hii hK;clear hK hA;refine wO rfl ?_;go_simp;exact HK.out _ _ br λX hX _=>hX
      case b7=>
       refine⟨?_,?_⟩
       ·rintro o ho T W K hK;obtain rfl:=Option.some.inj ho;simp only[sA]at hK|-;have HK:=hii hK;clear hK ho;refine wO rfl ?_;go_simp;exact HK.out
       ·rintro o ho G T W nb hA hp hrow K hK;obtain rfl:=Option.some.inj ho;have ep:T 16=.pointer (sD nb 0):=hp;have r5:((FQ (p i*((j:Int):Rat)-(((u:Nat):Int):Rat))):(Nat->Prop)->Wo->Vl->Prop) G W (T 83):=hA.2.1;have r5:zad W _ (p i*((j:Int):Rat)-(((u:Nat):Int):Rat)):=r5;obtain⟨J8,ao8,n8,Y8,K8,ap8,m8,Z8,e5⟩:=r5.parts;have hK:=hK [.bool J8,.slice ao8 n8 Y8,.bool K8,.slice ap8 m8 Z8] (.inl e5) rfl (by intro u hu k z e;subst e;simp at hu);simp only[sA,ep,e5]at hK|-;have HK:=hii hK;clear hK hA ho;have q0:=hrow.cell (k:=0) (by simp);have f0:=hrow.free 0;have q1:=hrow.cell (k:=1) (by simp);have f1:=hrow.free 1;have q2:=hrow.cell (k:=2) (by simp);have f2:=hrow.free 2;have q3:=hrow.cell (k:=3) (by simp);have f3:=hrow.free 3;simp only[List.getElem_cons_zero,List.getElem_cons_succ]at q0 q1 q2 q3;refine wO rfl ?_;go_simp;exact HK.out
      case he=>
       rintro GG N T W hb hHG hGW hGo hbox hNG hne hA;have fw:((FQ (p i*((j:Int):Rat)-(((u:Nat):Int):Rat))):(Nat->Prop)->Wo->Vl->Prop) GG W (T 83):=hA.at 5 (by decide);have f9:T 17=.int .i64 0:=hA.at 9 (by decide);obtain⟨ep,_,hge,vs,hsto,hrow⟩:=hbox 7 _ rfl;have ep:T 16=.pointer (some ⟨N 7,0,none⟩):=ep;have fw:zad W _ (p i*((j:Int):Rat)-(((u:Nat):Int):Rat)):=fw;obtain⟨J4,ao4,n4,Y4,K4,ap4,m4,Z4,e5⟩:=fw.parts;obtain rfl:=hsto.four e5;rw[e5]at fw;simp only[sA,ep,f9];obtain⟨g16,hg⟩:∃g,g=N 7:=⟨_,rfl⟩;rw[<-hg]at hrow hge|-;have Hg16:=hii hge;clear hA hbox hNG hne hHG hGW hGo ep f9 hsto hge e5 hg;have HL:=hii (Below.step HL.out hb nl);have hEr:=hEr.mono hb;clear hb r14 fv;obtain⟨wf,rfl⟩:=exi W;have r16:Row wf g16 32 [.bool J4,.slice ao4 n4 Y4,.bool K4,.slice ap4 m4 Z4]:=hrow;clear hrow;have HC1:Hid (CrS (p i*((j:Int):Rat)-(((u:Nat):Int):Rat)) (((-((NN:Nat):Int)):Int):Rat)):=hii (HKd.out.crS HKN.out.2 (by decide));have HC2:Hid (CrS (p i*((j:Int):Rat)-(((u:Nat):Int):Rat)) (((NN:Nat):Int):Rat)):=hii (HKd.out.crS HKN.out.1 (by decide));have hg1:=ze1 (p i*((j:Int):Rat)-(((u:Nat):Int):Rat)) (((-((NN:Nat):Int)):Int):Rat);have hg2:=zhD (p i*((j:Int):Rat)-(((u:Nat):Int):Rat)) (((NN:Nat):Int):Rat);rw[decide_eq_true (show(((-((NN:Nat):Int)):Int):Rat)<p i*((j:Int):Rat)-(((u:Nat):Int):Rat) by rw[Rat.intCast_neg];exact Hfi.out.1)]at hg1;rw[decide_eq_true (show p i*((j:Int):Rat)-(((u:Nat):Int):Rat)<(((NN:Nat):Int):Rat)from Hfi.out.2)]at hg2;obtain⟨z1,hz1⟩:∃z,Rq.cmpQ (p i*((j:Int):Rat)-(((u:Nat):Int):Rat)) (((-((NN:Nat):Int)):Int):Rat)=z:=⟨_,rfl⟩;obtain⟨z2,hz2⟩:∃z,Rq.cmpQ (p i*((j:Int):Rat)-(((u:Nat):Int):Rat)) (((NN:Nat):Int):Rat)=z:=⟨_,rfl⟩;rw[hz1]at hg1;rw[hz2]at hg2;have hg1:=of_decide_eq_true hg1;have hg2:=of_decide_eq_true hg2;have Hz1:=hii hz1;have Hz2:=hii hz2;clear hz1 hz2 hn60;have hwn:IntKind.i64.wrap (-((NN:Nat):Int))=-((NN:Nat):Int):=by unfold IntKind.wrap;simp[IntKind.bits,IntKind.signed];omega
       go_upto_region 20 with fail;refine zae (wx:=wf) [vf (.agg #[.bool J4,.slice ao4 n4 Y4,.bool K4,.slice ap4 m4 Z4]),vf (.slice (sD b5 off5) NN cS),vf (.int .i64 (NN:Nat)),vf (.int .i64 (-((NN:Nat):Int))),(λW v=>zad W v (((-((NN:Nat):Int)):Int):Rat)),vf (.tuple #[.int .i64 z1,.int .i64 0]),vf (.tuple #[.int .i64 z1,.int .i64 0]),vf (.int .i64 z1),vf (.int .i64 0),vf (.int .i64 z1),vf (.int .i64 0)] [86,87,88,89,90,91,85,92,93,18,19] br ⟨sV _,sV _,sV _,sV _,(λ_ _ _ h hb=>h.mono hb),sV _,sV _,sV _,sV _,sV _,sV _,trivial⟩ ⟨?s0,?s1,?s2,?s3,?s4,?s5,?s6,?s7,?s8,?s9,?s10,trivial⟩ ?he
       case' s0|s1|s2|s3|s4|s5|s6|s7|s8|s9|s10=>
        rintro T W hb hA K hK
       case' s1=>
        simp only[sA]at hK|-
       case' s2=>
        simp only[sA,f0 T 87 hA]at hK|-
       case' s3=>
        simp only[sA,f0 T 88 hA]at hK|-
       case' s6=>
        simp only[sA,f0 T 91 hA]at hK|-
       case' s7|s8=>
        simp only[sA,f0 T 85 hA]at hK|-
       case' s9=>
        simp only[sA,f0 T 92 hA]at hK|-
       case' s10=>
        simp only[sA,f0 T 93 hA]at hK|-
       case s1|s2|s3|s6|s7|s8|s9|s10=>
        have HK:=hii hK;clear hK hA;refine wO rfl ?_;go_simp;exact HK.out _ _ br (rfl)
       case s0=>
        simp only[sA]at hK|-;have HK:=hii hK;clear hK hA;obtain⟨k0,k1,k2,k3⟩:=(r16.below hb).n4;refine wO rfl ?_;go_simp;exact HK.out _ _ br (rfl)
       case s4=>
        simp only[sA,f0 T 89 hA]at hK|-;have HK:=hii hK;clear hK hA;refine wO rfl ?_;go_simp;go_fit (za0 (-((NN:Nat):Int)) 1 W (by omega) (by omega) (by decide) (by decide) (hii (by decide)) (hEr.mono hb));rintro e w1⟨hz,hb1⟩;rw[divInt_one]at hz;obtain⟨J7,ao7,n7,Y7,K7,ap7,m7,Z7,rfl,hV7⟩:=hz.rat
        try dsimp only
        exact HK.out _ _ hb1 (hV7)
       case s5=>
        have r4:(_:Wo->Vl->Prop) W (T 90):=hA.2.1;simp only[sA,f0 T 86 hA]at hK|-;have HK:=hii hK;clear hK hA;have r4:zad W _ (((-((NN:Nat):Int)):Int):Rat):=r4;obtain⟨J8,ao8,n8,Y8,K8,ap8,m8,Z8,e4⟩:=r4.parts;rw[e4]at r4;simp only[e4]at HK|-;refine wO rfl ?_;go_simp;go_fit (zhc _ _ (p i*((j:Int):Rat)-(((u:Nat):Int):Rat)) (((-((NN:Nat):Int)):Int):Rat) W (fw.mono hb) r4 HC1 (hEr.mono hb));rw[Hz1.out];rintro e w1⟨rfl,hb1⟩
        try dsimp only
        exact HK.out _ _ hb1 (rfl)
       case he=>
        rintro T W hb hA;have fa:T 18=.int .i64 z1:=hA.at 9 (by decide);have fb:T 19=.int .i64 0:=hA.at 10 (by decide);simp only[sA,fa,fb];have HL:=hii (Below.step HL.out hb nl);have hEr:=hEr.mono hb;have r16:=r16.below hb;have fw:=fw.mono hb;clear hA fa fb hb;obtain⟨wg,rfl⟩:=exi W;go_upto_region 21 with fail;refine zae (wx:=wg) [vf (.agg #[.bool J4,.slice ao4 n4 Y4,.bool K4,.slice ap4 m4 Z4]),vf (.slice (sD b5 off5) NN cS),vf (.int .i64 (NN:Nat)),(λW v=>zad W v (((NN:Nat):Int):Rat)),vf (.tuple #[.int .i64 z2,.int .i64 0]),vf (.tuple #[.int .i64 z2,.int .i64 0]),vf (.int .i64 z2),vf (.int .i64 0),vf (.int .i64 z2),vf (.int .i64 0)] [95,96,97,98,99,94,100,101,20,21] br ⟨sV _,sV _,sV _,(λ_ _ _ h hb=>h.mono hb),sV _,sV _,sV _,sV _,sV _,sV _,trivial⟩ ⟨?s0,?s1,?s2,?s3,?s4,?s5,?s6,?s7,?s8,?s9,trivial⟩ ?he
        case' s0|s1|s2|s3|s4|s5|s6|s7|s8|s9=>
         rintro T W hb hA K hK
        case' s1=>
         simp only[sA]at hK|-
        case' s2=>
         simp only[sA,f0 T 96 hA]at hK|-
        case' s5=>
         simp only[sA,f0 T 99 hA]at hK|-
        case' s6|s7=>
         simp only[sA,f0 T 94 hA]at hK|-
        case' s8=>
         simp only[sA,f0 T 100 hA]at hK|-
        case' s9=>
         simp only[sA,f0 T 101 hA]at hK|-
        case s1|s2|s5|s6|s7|s8|s9=>
         have HK:=hii hK;clear hK hA;refine wO rfl ?_;go_simp;exact HK.out _ _ br (rfl)
        case s0=>
         simp only[sA]at hK|-;have HK:=hii hK;clear hK hA;obtain⟨k0,k1,k2,k3⟩:=(r16.below hb).n4;refine wO rfl ?_;go_simp;exact HK.out _ _ br (rfl)
        case s3=>
         simp only[sA,f0 T 97 hA]at hK|-;have HK:=hii hK;clear hK hA;refine wO rfl ?_;go_simp;go_fit (za0 ((NN:Nat):Int) 1 W (by omega) (by omega) (by decide) (by decide) (hii (by decide)) (hEr.mono hb));rintro e w1⟨hz,hb1⟩;rw[divInt_one]at hz;obtain⟨J7,ao7,n7,Y7,K7,ap7,m7,Z7,rfl,hV7⟩:=hz.rat
         try dsimp only
         exact HK.out _ _ hb1 (hV7)
        case s4=>
         have r3:(_:Wo->Vl->Prop) W (T 98):=hA.2.1;simp only[sA,f0 T 95 hA]at hK|-;have HK:=hii hK;clear hK hA;have r3:zad W _ (((NN:Nat):Int):Rat):=r3;obtain⟨J8,ao8,n8,Y8,K8,ap8,m8,Z8,e3⟩:=r3.parts;rw[e3]at r3;simp only[e3]at HK|-;refine wO rfl ?_;go_simp;go_fit (zhc _ _ (p i*((j:Int):Rat)-(((u:Nat):Int):Rat)) (((NN:Nat):Int):Rat) W (fw.mono hb) r3 HC2 (hEr.mono hb));rw[Hz2.out];rintro e w1⟨rfl,hb1⟩
         try dsimp only
         exact HK.out _ _ hb1 (rfl)
        case he=>
         rintro T W hb hA;have fa:T 20=.int .i64 z2:=hA.at 8 (by decide);have fb:T 21=.int .i64 0:=hA.at 9 (by decide);simp only[sA,fa,fb];have HL:=hii (Below.step HL.out hb nl);clear hA fa fb hb hEr r16 fw;have hz1:¬z1<=0:=by omega
         have hz2:¬(0:Int)<=z2:=by omega
         go_wp2;go_roundw
         case rel=>exact⟨i+1,by omega,by go_num,HL⟩
         case measure=>simp[intOf];omega
  ·have hiN:¬(i:Int)<(NN:Int):=by omega
   have hbw:=Below.step hbw Hb4.out nl;go_wp2;go_ret;exact⟨rfl,hbw⟩
end Go.Proofs.YtfgffkmddanjjaaGreatDoor
