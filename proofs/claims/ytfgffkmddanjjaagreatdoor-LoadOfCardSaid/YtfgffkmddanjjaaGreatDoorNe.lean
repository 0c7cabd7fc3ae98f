/-
  The law LoadOf.
-/
import Derived.Test.YtfgffkmddanjjaaGreatDoorNc
import Derived.Test.YtfgffkmddanjjaaGreatDoorNd
import Derived.Test.YtfgffkmddanjjaaGreatDoorMj
set_option linter.unusedVariables false
set_option linter.unusedSimpArgs false
set_option maxRecDepth 100000
set_option maxHeartbeats 25600000
namespace Go.Proofs.YtfgffkmddanjjaaGreatDoor
open _root_.Go.Proofs.Tryz
open Go.RowKit
variable {R S:LN} {k:Nat} {G:Nat->Prop} {f:Rat} {w':Wo}
theorem zhD(w:Wo)(hE:Env w):CP 13 #[.agg #[bF_,nS_,bF_,nS_],.agg #[bF_,nS_,bF_,nS_]] w λe w'=>e=.returned (.bool true)/\BH w w' :=
 zfl 0 0 0 0 w (hii ⟨rfl,rfl⟩) (zai.zero w) (zai.zero w) (zai.zero w) (zai.zero w) hE
theorem EU.keptG{α:Type}{R:Wo->List Vl->α->Prop}(hR:zdh R){w:Wo}{ao:OA}{l:List α}(h:EU k R w ao l)(hk:zah G w w')(hn:NoU G w)(ha:∀a,ao=some a->¬G a.block):EU k R w' ao l:=λi a hi=>by
 obtain⟨b,off,c,e,hl,hc,hr⟩:=h i a hi;exact⟨b,off,c,e,hl,λj u hu=>hk.cell (hc j u hu) (show ¬G b from ha ⟨b,off,none⟩ e),hR G w w' c a hr hk hn⟩
def FE(L:List ((Nat×Nat)×Qo))(G:Nat->Prop)(W:Wo)(v:Vl):Prop:=∃ao cap,v=.slice ao L.length cap/\(∀a,ao=some a->a.block<W.heap.size/\¬G a.block)/\EU 6 zaL W ao L
theorem zkj{ops:Array Oper}(L:List ((Nat×Nat)×Qo)):zlK (zeR ops k) (λG X W=>FE L G W (X k)):=zaq λG G' W W' v h hk hn hg=>by
 obtain⟨ao,cap,e,ha,hu⟩:=h;exact⟨ao,cap,e,λa h=>⟨Nat.lt_of_lt_of_le (ha a h).1 hk.size,λhh=>(ha a h).2 (hg _ (ha a h).1 hh)⟩,hu.keptG zag hk hn.u λa h=>(ha a h).2⟩
theorem FE.mk{L:List ((Nat×Nat)×Qo)}{W w1:Wo}{a2:OA}{n c2:Nat}(hG:∀b,G b->b<W.heap.size)(hn:L.length=n)(h0:0<n)(hp:∀p,a2=some p->W.heap.size<=p.block)(hu:EU 6 zaL w1 a2 L):FE L G w1 (.slice a2 n c2):=by
 subst hn;refine⟨a2,c2,rfl,λa e=>⟨?_,λh=>absurd (hG _ h) (by have:=hp a e;omega)⟩,hu⟩;obtain⟨b,off,c,e2,hl,hc,_⟩:=hu 0 _ (gE h0);rw[e]at e2
 cases e2
 exact zaf (hc 0 _ (gE oM))
theorem OfR.err{cap:List Rat}{L:List ((Nat×Nat)×Qo)}(hbad:L.any (zaX R S)=true\/zav (L.map (·.2))≠0):∃k:Int,k≠0/\∀w' e,OfR R S f cap L w' e->e=.returned (.tuple #[.agg #[bF_,nS_,bF_,nS_],.int .i64 k]):=by
 by_cases hm:L.any (zaX R S)=true
 ·refine⟨1,dM,λw' e h=>?_⟩;rcases h with⟨_,h⟩|⟨h,_⟩|⟨h,_⟩
  ·exact h
  ·rw[h]at hm;cases hm
  ·rw[h]at hm;cases hm
 ·have hp:zav (L.map (·.2))≠0:=hbad.resolve_left hm;refine⟨(zav (L.map (·.2)):Nat),oM,λw' e h=>?_⟩;rcases h with⟨h,_⟩|⟨_,_,h⟩|⟨_,h,_⟩
  ·exact absurd h hm
  ·exact h
  ·exact absurd h hp
theorem OfR.got{cap:List Rat}{sh:List ((Nat×Nat)×Rat)}{e:Ending}(hm:(shQ sh).any (zaX R S)=false)(hp:zav ((shQ sh).map (·.2))=0)(h:OfR R S f cap (shQ sh) w' e):zb3 w' (mxS f cap sh cap.length) e:=by
 rcases h with⟨h,_⟩|⟨_,h,_⟩|⟨_,_,sh',h,hg⟩
 ·rw[h]at hm;cases hm
 ·exact absurd hp h
 ·rw[zmo h];exact hg
theorem ziy(xN xF:Nat)(lR lW lC:LN)(aR aW aC:OA)(cR cW cC:Nat)(lL:LN)(aL:OA)(cL xr xs:Nat){J9:Bool}{ao9:OA}{n9 Y9:Nat}{K9:Bool}{ap9:OA}{m9 Z9:Nat}(w:Wo)(hxN:xN<256)(hxF:xF<256)(hlR:lR.length<=9223372036854775807)(hlW:lW.length<=9223372036854775807)(hlC:lC.length<=9223372036854775807)(uR:zaF w aR lR)(uW:zaF w aW lW)(uC:ByU w aC lC)(HR:Hid (zaR lR))(HW:Hid (zaR lW))(HC:Hid (∀x∈lC,x<256))(hlL:lL.length<=9223372036854775807)(uL0:ByU w aL lL)(HL8:Hid (∀x∈lL,x<256))(hxr:xr<65536)(hxs:xs<65536)(VP:zmb w (.agg #[.bool J9,.slice ao9 n9 Y9,.bool K9,.slice ap9 m9 Z9]))(hE:Env w) :
  CP 6 #[.agg #[.int .u8 (xN:Nat),.slice aR lR.length cR,.slice aW lW.length cW,.int .u8 (xF:Nat),.slice aC lC.length cC],.slice aL lL.length cL,.agg #[.int .u16 (xr:Nat),.int .u16 (xs:Nat),.bool J9,.slice ao9 n9 Y9,.bool K9,.slice ap9 m9 Z9]] w λe w'=>e=.returned (.bool true)/\BH w w':=by
 have hbw:=Below.refl w.heap.size w;obtain⟨n,hn⟩:∃n,2+xN % 4=n:=⟨_,rfl⟩;have hn5:2<=n/\n<=5:=oM;have HM:=hii (λw uR uW uC hE=>zk1 xN xF lR lW lC n (hii hn.symm) aR aW aC cR cW cC w hxN hxF hlR hlW hlC uR uW uC HR HW HC hE);have HWk:=hii (zkL lR lW lC xF (n:=n) ⟨oM,hn5.2⟩);obtain⟨R,hR⟩:∃R,zb5 lR n=R:=⟨_,rfl⟩;obtain⟨S,hS⟩:∃S,wrN R (zb5 lW n)=S:=⟨_,rfl⟩;obtain⟨f,hf⟩:∃f,fN xF=f:=⟨_,rfl⟩;obtain⟨cap,hcap⟩:∃c,zfz lC n=c:=⟨_,rfl⟩;rw[hR,hS,hf,hcap]at HM HWk;have HLc:Hid (cap.length=n):=hii HWk.o.lc;obtain⟨nlR,hnlR⟩:∃m,lR.length=m:=⟨_,rfl⟩;obtain⟨nlW,hnlW⟩:∃m,lW.length=m:=⟨_,rfl⟩;obtain⟨nlC,hnlC⟩:∃m,lC.length=m:=⟨_,rfl⟩;rw[hnlR,hnlW,hnlC]at HM|-;clear hn hR hS hf hcap hnlR hnlW hnlC hlR hlW hlC HR HW HC hxN hxF;obtain⟨nL,hnL⟩:∃m,lL.length=m:=⟨_,rfl⟩;have HnL:=hii hnL;rw[hnL]at hlL|-;clear hnL;go_enter func6,ntmps6;go_upto_region 1 with fail;obtain⟨wx,hwx,r3,r5,hb⟩:=zaH w 25 59 [.int .u8 (xN:Nat),.slice aR nlR cR,.slice aW nlW cW,.int .u8 (xF:Nat),.slice aC nlC cC] [.int .u16 (xr:Nat),.int .u16 (xs:Nat),.bool J9,.slice ao9 n9 Y9,.bool K9,.slice ap9 m9 Z9];simp only[List.toArray]at hwx;rw[<-hwx];clear hwx;obtain⟨w1,rfl⟩:=exi wx;obtain⟨g5,hg5⟩:=exi (w.heap.size+1);have Hg5:Hid (w.heap.size<=g5):=hii oM;rw[<-hg5]at r5|-;clear hg5;obtain⟨g3,hg3⟩:=exi (w.heap.size);have Hg3:Hid (w.heap.size<=g3):=hii oM;rw[<-hg3]at r3|-;clear hg3;have uR:=uR.mono hb;have uW:=uW.mono hb;have uC:=uC.mono hb;have uL0:=uL0.mono hb;have VP:=VP.mono hb;have hE:=hE.mono hb;have hbw:=bu hbw hb;clear hb;go_wp2_with fail;go_fit (zdf w1 hE);rintro e w2⟨rfl,hb⟩;have uR:=uR.mono hb;have uW:=uW.mono hb;have uC:=uC.mono hb;have uL0:=uL0.mono hb;have VP:=VP.mono hb;have hE:=hE.mono hb;have r3:=r3.below hb;have r5:=r5.below hb;have hbw:=bu hbw hb;clear hb
 by_cases h10:10<nL
 ·have hg:(10:Int)<(nL:Int):=oM;clear VP uL0 HM r3 r5;go_wp2_with fail;go_fit (zdf w2 hE);rintro e w3⟨rfl,hb⟩;exact dS
 have hg:¬(10:Int)<(nL:Int):=oM;obtain⟨y0,y1,y2,y3,y4,y5⟩:=r5.n6;have HF:=hii (zjs _ w2 VP);go_wp2_with fail;(with_reducible refine HF.o.mono ?_);rintro e w3⟨⟨b,rfl,hbo⟩,hb⟩;have uR:=uR.mono hb;have uW:=uW.mono hb;have uC:=uC.mono hb;have uL0:=uL0.mono hb;have hE:=hE.mono hb;have r3:=r3.below hb;have r5:=r5.below hb;have hbw:=bu hbw hb;clear hb;clear VP HF y0 y1 y2 y3 y4 y5
 cases b with
 |false=>
  clear hbo HM r3 r5 uL0;go_wp2_with fail;go_fit (zdf w3 hE);rintro e w4⟨rfl,hb⟩;exact dS
 |true=>
  obtain⟨o,hQ,h30⟩:=hbo rfl;have H30:=hii h30;clear hbo h30;obtain⟨c0,c1,c2,c3,c4⟩:=r3.n5;go_wp2_with fail;go_fit (HM.o w3 uR uW uC hE);rintro e w4⟨⟨aR1,cR1,aS1,cS1,J1,ao1,n1,Y1,K1,ap1,m1,Z1,aC1,cC1,rfl,hcR1,hcS1,uR1,uS1,hf,hO⟩,hb⟩;have hO:=hO.base hbw.size;have uL0:=uL0.mono hb;have hE:=hE.mono hb;have hQ:=hQ.mono hb;have r5:=r5.below hb;have hbw:=bu hbw hb;clear hb;rw[HLc.o]at hO|-;obtain⟨nR,hnR⟩:∃m,R.length=m:=⟨_,rfl⟩;obtain⟨nS,hnS⟩:∃m,S.length=m:=⟨_,rfl⟩;have HnR:=hii hnR;have HnS:=hii hnS;rw[hnR]at hcR1|-;rw[hnS]at hcS1|-;clear hnR hnS uR uW uC HM;clear c0 c1 c2 c3 c4 r3;go_upto_region 4 with fail;obtain⟨w5,g7,hw9,hg9,hb,r7⟩:=bxr w4 [.slice aR1 nR cR1,.slice aS1 nS cS1,.bool J1,.slice ao1 n1 Y1,.bool K1,.slice ap1 m1 Z1,.slice aC1 n cC1] 35;rw[<-hw9,<-hg9];have Hg7:Hid (w.heap.size<=g7):=hii (by have:=hbw.size;omega);clear hw9 hg9;have uR1:=uR1.mono hb;have uS1:=uS1.mono hb;have hf:=hf.mono hb;have hO:=hO.mono hb;have uL0:=uL0.mono hb;have hE:=hE.mono hb;have hQ:=hQ.mono hb;have r5:=r5.below hb;have hbw:=bu hbw hb;clear hb;obtain⟨aU,cU,eU,uC1⟩:=hO.read;simp only[Value.slice.injEq]at eU;obtain⟨rfl,-,rfl⟩:=eU;clear hO;have HStr:=hii (zfU (J1:=J1) (ao1:=ao1) (n1:=n1) (Y1:=Y1) (K1:=K1) (ap1:=ap1) (m1:=m1) (Z1:=Z1) R S lL aR1 aS1 aL aC1 cR1 cS1 cL n cC1 w5 (by have:=HnL.o;omega) HWk.o.fR.len HWk.o.fS.len uR1 uS1 uL0 HL8 hE);rw[HnR.o,HnS.o,HnL.o]at HStr;have HP0:=hii (zmM R S (l:=lL) (by have:=HnL.o;omega) (λx hx=>by have:=HL8.o x hx;omega));have HP1:=hii (zmN R S (l:=lL) (by have:=HnL.o;omega) (λx hx=>by have:=HL8.o x hx;omega) (xr,xs) H30.o);obtain⟨k0,k1,k2,k3,k4,k5,k6⟩:=r7.n7;go_wp2_with fail;(with_reducible refine HStr.o.mono ?_);rintro e w6⟨⟨v8,rfl,hO8⟩,hb6⟩;have hO8:=hO8.shQ;obtain⟨L0,hL0⟩:∃L,shQ (zfx R S lL)=L:=⟨_,rfl⟩;rw[hL0]at hO8 HP0 HP1;obtain⟨aO,cO,rfl,hcO,uO⟩:=hO8.read;obtain⟨nO,hnO⟩:∃m,L0.length=m:=⟨_,rfl⟩;have HnO:=hii hnO;rw[hnO]at hO8 hcO|-;have r5k:=r5.below hb6;have hQk:=hQ.mono hb6;clear k0 k1 k2 k3 k4 k5 k6 HStr uL0 hL0 hnO;obtain⟨y0,y1,y2,y3,y4,y5⟩:=r5k.n6;go_upto_if 38 with fail;go_cut [8] (λs8 wc=>∃(L:List ((Nat×Nat)×Qo))(ao:OA)(c:Nat),s8=.slice ao L.length c/\EU 6 zaL wc ao L/\BH w5 wc/\Hid (znu R S L))
  case first=>
   by_cases hx0:xr=0
   ·have hz:((xr:Int) != 0)=false:=by simp[hx0]
    go_wp2;go_meet;exact⟨L0,aO,cO,by rw[HnO.o],uO,hb6,HP0⟩
   ·have hz:((xr:Int) != 0)=true:=by simp;omega
    have hba:=bA w6 (.cells #[.int .u16 (xr:Nat),.int .u16 (xs:Nat),.bool J9,.slice ao9 n9 Y9,.bool K9,.slice ap9 m9 Z9] 59);have r9:Row (w6.alloc (.cells #[.int .u16 (xr:Nat),.int .u16 (xs:Nat),.bool J9,.slice ao9 n9 Y9,.bool K9,.slice ap9 m9 Z9] 59)) w6.heap.size 59 [.int .u16 (xr:Nat),.int .u16 (xs:Nat),.bool J9,.slice ao9 n9 Y9,.bool K9,.slice ap9 m9 Z9]:=heap_alloc_new _ _;have hO9:=hO8.mono zag hba;have hQ9:=hQk.mono hba;have hb9:=bu hb6 hba;have hB9:=hb9.size;have hL9:L0.length<=1000000:=by have:=HP0.o.len.2;omega
    go_wp2_with (at_builtin;go_loud (refine znd _ w5 w5.heap.size rfl (.tmp 39) (.tmp 41) rfl rfl rfl hO9 hB9 hb9 r9 hQ9 hL9 ?_);intro v2 w7 hO2 hb2);go_meet;obtain⟨a2,c2,rfl,-,u2⟩:=hO2.read;exact⟨_,a2,c2,rfl,u2,hb2,HP1⟩
  case rest=>
   obtain⟨L,aL9,cL9,rfl,uL,hb,HLf⟩:=hcut;have uR1:=uR1.mono hb;have uS1:=uS1.mono hb;have uC1:=uC1.mono hb;have hf:=hf.mono hb;have hE:=hE.mono hb;have r7:=r7.below hb;have hbw:=bu hbw hb;clear hb;clear hO8 r5 r5k hQ hQk y0 y1 y2 y3 y4 y5 hb6 uO HP0 HP1 hcO H30;obtain⟨wc,rfl⟩:∃w9:Wo,w9=wc:=⟨_,rfl⟩;have hm5:=HWk.o.hm;have HRl:=HWk.o.fR.len.2;have HSz:Hid (L.any (zaX R S)=false->zav (L.map (·.2))=0->∃sh,L=shQ sh/\OfS f cap sh):=hii λa b=>by
    obtain⟨sh,h1,h2,-⟩:=HLf.o.best HWk.o a b;exact⟨sh,h1,h2⟩
   have HA:=hii HLf.o.add;have hLl:=HLf.o.len;have HO1:=hii (λW (a2:OA) (c2:Nat) u1 u2 (u3:zad W (qA J1 ao1 n1 Y1 K1 ap1 m1 Z1) f) u4 u5 u6=>zof R S f cap n HWk L aR1 aS1 aC1 a2 cR1 cS1 cC1 c2 W oM (by rw[HnR.o];exact hcR1) (by rw[HnS.o];exact hcS1) u1 u2 u3 u4 u5 u6 HSz);have HO2:=hii (λW u1 u2 (u3:zad W (qA J1 ao1 n1 Y1 K1 ap1 m1 Z1) f) u4 u5 u6=>zkZ R S f cap n HWk L aR1 aS1 aC1 aL9 cR1 cS1 cC1 cL9 W oM u1 u2 u3 u4 u5 u6 HA HSz);have HCl:=hii (λW u=>ziJ L aL9 cL9 W ⟨hLl.1,oM⟩ u);obtain⟨NL,hNL⟩:∃m,L.length=m:=⟨_,rfl⟩;have HNL:=hii hNL;rw[HnR.o,HnS.o,HLc.o,hNL]at HO1 HO2;rw[hNL]at HCl hLl|-;have hNL0:0<NL:=oM
   clear hNL
   by_cases hbad:L.any (zaX R S)=true\/zav (L.map (·.2))≠0
   ·obtain⟨k,hk0,hKe⟩:=OfR.err (f:=f) (cap:=cap) hbad;have HKe:=hii hKe;have hkk:(k != k)=false:=sM;have hke:(k==k)=true:=sM;have hkn:(k != 0)=true:=by simp[hk0]
    clear hKe hbad hk0;go_upto_region 7 with fail;refine zan (wx:=wc) (λ_=>False) [(λ_ X _=>X 0=pT g7 0),(λ_ X _=>X 1=.slice aR1 nR cR1),(λ_ X _=>X 2=pT g7 1),(λ_ X _=>X 3=.slice aS1 nS cS1),(λ_ X _=>X 4=pT g7 2),(λ_ X _=>X 5=.agg #[.bool J1,.slice ao1 n1 Y1,.bool K1,.slice ap1 m1 Z1]),(λ_ X _=>X 6=pT g7 6),(λ_ X _=>X 7=.slice aC1 n cC1),(λ_ X _=>X 8=.slice aL9 NL cL9),(λG X W=>((FE L):FV) G W (X 9)),(λ_ X _=>X 10=.tuple #[.agg #[bF_,nS_,bF_,nS_],.int .i64 k]),(λ_ X _=>X 11=.tuple #[.agg #[bF_,nS_,bF_,nS_],.int .i64 k]),(λ_ X _=>X 12=.agg #[bF_,nS_,bF_,nS_]),(λ_ X _=>X 13=.int .i64 k),(λ_ _ _=>True),(λ_ _ _=>True),(λ_ X _=>X 16=.int .i64 k)] [some 44,some 45,some 46,some 47,some 48,some 49,some 50,some 51,some 52,some 53,some 54,some 43,some 55,some 56,some 9,none,some 10] [none,none,none,none,none,none,none,none,none,none,none,none,none,none,some ⟨15,12,32,[bF_,nS_,bF_,nS_]⟩,none,none] [44,45,46,47,48,49,50,51,52,53,54,43,55,56,9,10] ⟨(by intro u hu k z e;subst e;simp at hu),trivial⟩ (λb h=>h) br ⟨zaa _ _ _,zaa _ _ _,zaa _ _ _,zaa _ _ _,zaa _ _ _,zaa _ _ _,zaa _ _ _,zaa _ _ _,zaa _ _ _,zkj _,zaa _ _ _,zaa _ _ _,zaa _ _ _,zaa _ _ _,zaj _,zaj _,zaa _ _ _,trivial⟩ ⟨⟨λ_ _ _=>trivial,λ_ _ _=>trivial⟩,trivial⟩ ⟨tX,?s1,tX,?s3,tX,?s5,tX,?s7,tX,?s9,?s10,tX,tX,tX,?s14,?s15,tX,trivial⟩ ⟨?b14,trivial⟩ ?he
    case' s1|s3|s5|s7|s9|s10=>
     rintro-G T W hb hHG hGW hGo hNG hA K hK;simp only[yA,yB,Region.binds]at hA;simp only[sA,hA]at hK|-
    case' s1|s3|s5|s7|s9=>
     have HK:=hii hK;clear hK hA
    case s1|s3|s5|s7=>
     obtain⟨k0,k1,k2,k3,k4,k5,k6⟩:=(r7.below hb).n7;exact cK
    case s9=>
     refine wO rfl ?_;go_simp;go_fit (HCl.o W (uL.mono zag hb));rintro e w1⟨⟨a9,c9,rfl,hp9,u9⟩,hb1⟩
     try dsimp only
     exact HK.o _ _ (hb1) λX hX _=>by
      show((FE L):FV) G _ (X 9)
      rw[hX];exact FE.mk hGW HNL.o hNL0 hp9 u9
    case s10=>
     have r9:((FE L):FV) G W (T 53):=hA.2.2.2.2.1;obtain⟨a9,c9,e9,-,u9⟩:=r9;rw[HNL.o]at e9;simp only[e9]at hK|-;have HK:=hii hK;clear hK hA;refine wO rfl ?_;go_simp;go_fit (HO1.o W a9 c9 (uR1.mono hb) (uS1.mono hb) (hf.mono hb) (uC1.mono hb) u9 (hE.mono hb));rintro e w1⟨hz,hb1⟩;obtain rfl:=HKe.o _ _ hz
     try dsimp only
     exact HK.o _ _ (hb1) λX hX _=>hX
    case s14=>exact λh=>absurd h dM
    case s15=>exact λh=>absurd h dM
    case b14=>
     refine⟨?_,?_⟩
     ·exact cG
     ·rintro o ho G T W nb hA hp hrow K hK;obtain rfl:=Option.some.inj ho;have ep:T 9=.pointer (sD nb 0):=hp;have e12:T 55=_:=hA.2.1;have hK:=hK [bF_,nS_,bF_,nS_] (.inl e12) rfl (by intro u hu k z e;subst e;simp at hu);simp only[sA,ep,e12]at hK|-;exact cJ
    case he=>
     rintro GG N T W hb hHG hGW hGo hbox hNG hne hA;have f12:T 55=.agg #[bF_,nS_,bF_,nS_]:=hA.at 12 dM;have f16:T 10=.int .i64 k:=hA.at 16 dM;obtain⟨ep,_,hge,vs,hsto,hrow⟩:=hbox 14 _ rfl;have ep:T 9=.pointer (some ⟨N 14,0,none⟩):=ep;obtain rfl:=hsto.four f12;simp only[sA,ep,f16];obtain⟨g9,hg⟩:∃g,g=N 14:=⟨_,rfl⟩;rw[<-hg]at hrow hge|-;have Hg9:=hii hge;have uR1:=uR1.mono hb;have uS1:=uS1.mono hb;have uC1:=uC1.mono hb;have hf:=hf.mono hb;have hE:=hE.mono hb;have r7:=r7.below hb;have uL:=uL.mono zag hb;have hbw:=bu hbw hb;clear hb;clear hA hbox hNG hne hHG hGW hGo ep f12 f16 hsto hge hg HO1 HCl;obtain⟨wd,rfl⟩:=exi W;have r9:Row wd g9 32 [bF_,nS_,bF_,nS_]:=hrow;clear hrow;obtain⟨k0,k1,k2,k3,k4,k5,k6⟩:=r7.n7;go_wp2_with fail;go_fit (HO2.o wd uR1 uS1 hf uC1 uL hE);rintro e we⟨hz,hb⟩;obtain rfl:=HKe.o _ _ hz;have hE:=hE.mono hb;have r9:=r9.below hb;have hbw:=bu hbw hb;clear hb;clear hz HO2 k0 k1 k2 k3 k4 k5 k6 uL uR1 uS1 uC1 hf r7;go_upto_region 9 with fail;obtain⟨wf,g11,hw9,hg9,hb,r11⟩:=bxr we [bF_,nS_,bF_,nS_] 32;rw[<-hw9,<-hg9];have Hg11:Hid (w.heap.size<=g11):=hii (by have:=hbw.size;omega);clear hw9 hg9;have hE:=hE.mono hb;have r9:=r9.below hb;have hbw:=bu hbw hb;clear hb;obtain⟨d0,d1,d2,d3⟩:=r9.n4;obtain⟨k0,k1,k2,k3⟩:=r11.n4;go_wp2_with fail;go_fit (zhD wf hE);rintro e wg⟨rfl,hb⟩;have hE:=hE.mono hb;have r9:=r9.below hb;have r11:=r11.below hb;have hbw:=bu hbw hb;clear hb;clear d0 d1 d2 d3 k0 k1 k2 k3;obtain⟨d0,d1,d2,d3⟩:=r9.n4;obtain⟨k0,k1,k2,k3⟩:=r11.n4;go_wp2_with fail;go_fit (zhD wg hE);rintro e wh⟨rfl,hb⟩;have hbw:=bu hbw hb;clear hb d0 d1 d2 d3 k0 k1 k2 k3;exact cP
   ·obtain⟨h1,h2⟩:L.any (zaX R S)=false/\zav (L.map (·.2))=0:=by
     rw[not_or]at hbad;exact⟨by simpa using hbad.1,by simpa using hbad.2⟩
    obtain⟨sh,hsh,-,hKb,hBest⟩:=HLf.o.best HWk.o h1 h2;have HGot:Hid (∀w' e,OfR R S f cap L w' e->zb3 w' (mxS f cap sh n) e):=hii λw' e h=>by
     rw[hsh]at h h1 h2;have:=OfR.got h1 h2 h;rw[HLc.o]at this;exact this
    obtain⟨mx,hmx⟩:∃x,mxS f cap sh n=x:=⟨_,rfl⟩;rw[hmx]at hKb HGot hBest;have HKb:=hii hKb;have HBest:=hii (λld Ps Qs (B:Bal (prs R S) f cap n (prs R S).length (szE 96 n) ld Ps Qs)=>hBest _ _ ld Ps Qs B);clear hbad h1 h2 hsh hKb hBest hmx;go_upto_region 7 with fail;refine zan (wx:=wc) (λ_=>False) [(λ_ X _=>X 0=pT g7 0),(λ_ X _=>X 1=.slice aR1 nR cR1),(λ_ X _=>X 2=pT g7 1),(λ_ X _=>X 3=.slice aS1 nS cS1),(λ_ X _=>X 4=pT g7 2),(λ_ X _=>X 5=.agg #[.bool J1,.slice ao1 n1 Y1,.bool K1,.slice ap1 m1 Z1]),(λ_ X _=>X 6=pT g7 6),(λ_ X _=>X 7=.slice aC1 n cC1),(λ_ X _=>X 8=.slice aL9 NL cL9),(λG X W=>((FE L):FV) G W (X 9)),(λG X W=>((λ_ W v=>∃a,v=.tuple #[a,.int .i64 0]/\zad W a (mx)):FV) G W (X 10)),(λG X W=>((λ_ W v=>∃a,v=.tuple #[a,.int .i64 0]/\zad W a (mx)):FV) G W (X 11)),(λG X W=>((FQ (mx)):FV) G W (X 12)),(λ_ X _=>X 13=.int .i64 0),(λ_ _ _=>True),(λ_ _ _=>True),(λ_ X _=>X 16=.int .i64 0)] [some 44,some 45,some 46,some 47,some 48,some 49,some 50,some 51,some 52,some 53,some 54,some 43,some 55,some 56,some 9,none,some 10] [none,none,none,none,none,none,none,none,none,none,none,none,none,none,some ⟨15,12,32,[bF_,nS_,bF_,nS_]⟩,none,none] [44,45,46,47,48,49,50,51,52,53,54,43,55,56,9,10] ⟨(by intro u hu k z e;subst e;simp at hu),trivial⟩ (λb h=>h) br ⟨zaa _ _ _,zaa _ _ _,zaa _ _ _,zaa _ _ _,zaa _ _ _,zaa _ _ _,zaa _ _ _,zaa _ _ _,zaa _ _ _,zkj _,(zaq (F:=λ_ W v=>∃a,v=.tuple #[a,.int .i64 0]/\zad W a (mx)) λG G' W W' v ⟨a,e,h⟩ hk hn hG=>⟨a,e,h.kept hk hn⟩),(zaq (F:=λ_ W v=>∃a,v=.tuple #[a,.int .i64 0]/\zad W a (mx)) λG G' W W' v ⟨a,e,h⟩ hk hn hG=>⟨a,e,h.kept hk hn⟩),zaQ _,zaa _ _ _,zaj _,zaj _,zaa _ _ _,trivial⟩ ⟨⟨λ_ _ _=>trivial,λ_ _ _=>trivial⟩,trivial⟩ ⟨tX,?s1,tX,?s3,tX,?s5,tX,?s7,tX,?s9,?s10,?s11,?s12,?s13,?s14,?s15,tX,trivial⟩ ⟨?b14,trivial⟩ ?he
    case' s1|s3|s5|s7|s9|s10|s11|s12|s13=>
     rintro-G T W hb hHG hGW hGo hNG hA K hK;simp only[yA,yB,Region.binds]at hA;simp only[sA,hA]at hK|-
    case' s1|s3|s5|s7|s9=>
     have HK:=hii hK;clear hK hA
    case s1|s3|s5|s7=>
     obtain⟨k0,k1,k2,k3,k4,k5,k6⟩:=(r7.below hb).n7;exact cK
    case s9=>
     refine wO rfl ?_;go_simp;go_fit (HCl.o W (uL.mono zag hb));rintro e w1⟨⟨a9,c9,rfl,hp9,u9⟩,hb1⟩
     try dsimp only
     exact HK.o _ _ (hb1) λX hX _=>by
      show((FE L):FV) G _ (X 9)
      rw[hX];exact FE.mk hGW HNL.o hNL0 hp9 u9
    case s10=>
     have r9:((FE L):FV) G W (T 53):=hA.2.2.2.2.1;obtain⟨a9,c9,e9,-,u9⟩:=r9;rw[HNL.o]at e9;simp only[e9]at hK|-;have HK:=hii hK;clear hK hA;refine wO rfl ?_;go_simp;go_fit (HO1.o W a9 c9 (uR1.mono hb) (uS1.mono hb) (hf.mono hb) (uC1.mono hb) u9 (hE.mono hb));rintro e w1⟨hz,hb1⟩;obtain⟨J7,ao7,n7,Y7,K7,ap7,m7,Z7,rfl,hV7⟩:=(HGot.o _ _ hz).rat
     try dsimp only
     exact HK.o _ _ (hb1) λX hX _=>by
      show((λ_ W v=>∃a,v=.tuple #[a,.int .i64 0]/\zad W a (mx)):FV) G _ (X 10)
      exact dQ
    case s11=>
     have r10:((λ_ W v=>∃a,v=.tuple #[a,.int .i64 0]/\zad W a (mx)):FV) G W (T 54):=hA.1;obtain⟨a6,e10,h6⟩:=r10;simp only[e10]at hK|-;have HK:=hii hK;clear hK hA;refine wO rfl ?_;go_simp;exact HK.o _ _ br λX hX _=>by
      show((λ_ W v=>∃a,v=.tuple #[a,.int .i64 0]/\zad W a (mx)):FV) G _ (X 11)
      exact dL
    case s12=>
     have r11:((λ_ W v=>∃a,v=.tuple #[a,.int .i64 0]/\zad W a (mx)):FV) G W (T 43):=hA.1;obtain⟨a6,e11,h6⟩:=r11;simp only[e11]at hK|-;have HK:=hii hK;clear hK hA;refine wO rfl ?_;go_simp;exact HK.o _ _ br λX hX _=>by
      show((FQ (mx)):FV) G _ (X 12)
      exact eM
    case s13=>
     have r11:((λ_ W v=>∃a,v=.tuple #[a,.int .i64 0]/\zad W a (mx)):FV) G W (T 43):=hA.1;obtain⟨a6,e11,h6⟩:=r11;simp only[e11]at hK|-;exact dB
    case s14=>exact λh=>absurd h dM
    case s15=>exact λh=>absurd h dM
    case b14=>
     refine⟨?_,?_⟩
     ·exact cG
     ·rintro o ho G T W nb hA hp hrow K hK;obtain rfl:=Option.some.inj ho;have ep:T 9=.pointer (sD nb 0):=hp;have r12:((FQ (mx)):FV) G W (T 55):=hA.2.1;have r12:zad W _ (mx):=r12;obtain⟨J8,ao8,n8,Y8,K8,ap8,m8,Z8,e12⟩:=r12.parts;have hK:=hK [.bool J8,.slice ao8 n8 Y8,.bool K8,.slice ap8 m8 Z8] (.inl e12) rfl (by intro u hu k z e;subst e;simp at hu);simp only[sA,ep,e12]at hK|-;exact cJ
    case he=>
     rintro GG N T W hb hHG hGW hGo hbox hNG hne hA;have fv:((FQ (mx)):FV) GG W (T 55):=hA.at 12 dM;have f16:T 10=.int .i64 0:=hA.at 16 dM;obtain⟨ep,_,hge,vs,hsto,hrow⟩:=hbox 14 _ rfl;have ep:T 9=.pointer (some ⟨N 14,0,none⟩):=ep;have fv:zad W _ (mx):=fv;obtain⟨J6,ao6,n6,Y6,K6,ap6,m6,Z6,e5⟩:=fv.parts;obtain rfl:=hsto.four e5;rw[e5]at fv;simp only[sA,ep,f16];obtain⟨g9,hg⟩:∃g,g=N 14:=⟨_,rfl⟩;rw[<-hg]at hrow hge|-;have Hg9:=hii hge;clear hA hbox hNG hne hHG hGW hGo ep f16 hsto hge e5 hg;have uR1:=uR1.mono hb;have uS1:=uS1.mono hb;have uC1:=uC1.mono hb;have hf:=hf.mono hb;have hE:=hE.mono hb;have r7:=r7.below hb;have uL:=uL.mono zag hb;have hbw:=bu hbw hb;clear hb;clear HO1 HCl;obtain⟨wd,rfl⟩:=exi W;have r9:Row wd g9 32 [.bool J6,.slice ao6 n6 Y6,.bool K6,.slice ap6 m6 Z6]:=hrow;clear hrow;obtain⟨k0,k1,k2,k3,k4,k5,k6⟩:=r7.n7;go_wp2_with fail;go_fit (HO2.o wd uR1 uS1 hf uC1 uL hE);rintro e we⟨hz,hb⟩;obtain⟨J8,ao8,n8,Y8,K8,ap8,m8,Z8,rfl,hV8⟩:=(HGot.o _ _ hz).rat;have uR1:=uR1.mono hb;have uS1:=uS1.mono hb;have uC1:=uC1.mono hb;have hf:=hf.mono hb;have hE:=hE.mono hb;have fv:=fv.mono hb;have r7:=r7.below hb;have r9:=r9.below hb;have hbw:=bu hbw hb;clear hb;clear hz HO2 k0 k1 k2 k3 k4 k5 k6 uL;go_upto_region 9 with fail;obtain⟨wf,g11,hw9,hg9,hb,r11⟩:=bxr we [.bool J8,.slice ao8 n8 Y8,.bool K8,.slice ap8 m8 Z8] 32;rw[<-hw9,<-hg9];have Hg11:Hid (w.heap.size<=g11):=hii (by have:=hbw.size;omega);clear hw9 hg9;have uR1:=uR1.mono hb;have uS1:=uS1.mono hb;have uC1:=uC1.mono hb;have hf:=hf.mono hb;have hE:=hE.mono hb;have fv:=fv.mono hb;have hV8:=hV8.mono hb;have r7:=r7.below hb;have r9:=r9.below hb;have hbw:=bu hbw hb;clear hb;obtain⟨d0,d1,d2,d3⟩:=r9.n4;obtain⟨k0,k1,k2,k3⟩:=r11.n4;go_wp2_with fail;go_fit (zju (z:=true) (hii (decide_eq_true rfl)) fv hV8 hE);rintro e wg⟨rfl,hb⟩;have uR1:=uR1.mono hb;have uS1:=uS1.mono hb;have uC1:=uC1.mono hb;have hf:=hf.mono hb;have hE:=hE.mono hb;have fv:=fv.mono hb;have r7:=r7.below hb;have r9:=r9.below hb;have hbw:=bu hbw hb;clear hb;clear d0 d1 d2 d3 k0 k1 k2 k3 r11 hV8;have HOp:=hii (zjH R S f cap n HWk aR1 aS1 aC1 cR1 cS1 cC1 wg uR1 uS1 hf uC1 hE);rw[HnR.o,HnS.o,HLc.o]at HOp;obtain⟨k0,k1,k2,k3,k4,k5,k6⟩:=r7.n7;go_wp2_with fail;(with_reducible refine HOp.o.mono ?_);rintro e wh⟨⟨v,ld,Ps,Qs,rfl,hBV,hBl⟩,hb⟩;have hE:=hE.mono hb;have fv:=fv.mono hb;have r9:=r9.below hb;have hbw:=bu hbw hb;clear hb;clear HOp k0 k1 k2 k3 k4 k5 k6 uR1 uS1 uC1 hf r7;obtain⟨J2,ao2,n2,Y2,K2,ap2,m2,Z2,aS8,cS8,aQ8,cQ8,rfl,hv2,-⟩:=hBV;have HCr:Hid (CrS mx ld):=hii (by
      obtain⟨z,hz,hzM,hw,-,-⟩:=hBl.den;exact HKb.o.crS ((HWk.o.dn hz hzM).kb hw) dM)
     have hge:=zd0 (HBest.o ld Ps Qs hBl);obtain⟨cc,hcc⟩:∃x,Rq.cmpQ mx ld=x:=⟨_,rfl⟩;have Hcc:=hii hcc;rw[hcc]at hge;clear hcc hBl HBest;obtain⟨nS8,hnS8⟩:∃m,(shs (prs R S) Ps).length=m:=⟨_,rfl⟩;obtain⟨nQ8,hnQ8⟩:∃m,Qs.length=m:=⟨_,rfl⟩;rw[hnS8,hnQ8];clear hnS8 hnQ8;go_upto_region 12 with fail;obtain⟨wi,g13,hw9,hg9,hb,r13⟩:=bxr wh [.bool J2,.slice ao2 n2 Y2,.bool K2,.slice ap2 m2 Z2,.slice aS8 nS8 cS8,.slice aQ8 nQ8 cQ8] 39;rw[<-hw9,<-hg9];have Hg13:Hid (w.heap.size<=g13):=hii (by have:=hbw.size;omega);clear hw9 hg9;have hE:=hE.mono hb;have fv:=fv.mono hb;have hv2:=hv2.mono hb;have r9:=r9.below hb;have hbw:=bu hbw hb;clear hb;obtain⟨d0,d1,d2,d3⟩:=r9.n4;obtain⟨y0,y1,y2,y3,y4,y5⟩:=r13.n6;go_wp2_with fail;go_fit (zlR _ _ mx ld wi fv hv2 HCr hE);rw[Hcc.o];rintro e wj⟨rfl,hb⟩;have hbw:=bu hbw hb;clear hb d0 d1 d2 d3 y0 y1 y2 y3 y4 y5;exact cP
end Go.Proofs.YtfgffkmddanjjaaGreatDoor
