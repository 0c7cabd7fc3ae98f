/-
  A new block, named.
-/
import Derived.Test.YtfgffkmddanjjaaGreatDoorOQ
import Derived.Test.YtfgffkmddanjjaaGreatDoorDuS
import Derived.Test.YtfgffkmddanjjaaGreatDoorE14
import Derived.Test.YtfgffkmddanjjaaGreatDoorSa
import Derived.Test.YtfgffkmddanjjaaGreatDoorLp
set_option linter.unusedVariables false
set_option linter.unusedSimpArgs false
set_option maxRecDepth 100000
set_option maxHeartbeats 25600000
namespace Go.Proofs.YtfgffkmddanjjaaGreatDoor
open _root_.Go.Proofs.Tryz
open Go.RowKit
variable {R S l:LN} {a i k n1:Nat} {ao:OA}
theorem bxr(w:Wo)(xs:List Vl)(t:TypeId):∃W g,W=w.alloc (.cells xs.toArray t)/\g=w.heap.size/\BH w W/\Row W g t xs:=⟨_,_,rfl,rfl,bA _ _,heap_alloc_new _ _⟩
theorem zfy{W:Wo}{g:Nat}{x0 x1 x2 x3:Vl}(r:Row W g 32 [x0,x1,x2,x3])(hx:∀u∈[x0,x1,x2,x3],zaM u)(y0 y1 y2 y3:Vl){v:Rat}(h:zad W (.agg #[y0,y1,y2,y3]) v) :
  Row ((((W.setCell (aD_ g 0) y0).setCell (aD_ g 1) y1).setCell (aD_ g 2) y2).setCell (aD_ g 3) y3) g 32 [y0,y1,y2,y3] /\
  zah (λk=>k=g) W ((((W.setCell (aD_ g 0) y0).setCell (aD_ g 1) y1).setCell (aD_ g 2) y2).setCell (aD_ g 3) y3) /\
  zad ((((W.setCell (aD_ g 0) y0).setCell (aD_ g 1) y1).setCell (aD_ g 2) y2).setCell (aD_ g 3) y3) (.agg #[y0,y1,y2,y3]) v:=by
 have hk:zah (λk=>k=g) W ((((W.setCell (aD_ g 0) y0).setCell (aD_ g 1) y1).setCell (aD_ g 2) y2).setCell (aD_ g 3) y3) :=
  ((((zah.refl W:zah (λk=>k=g) W W).setCell (p:=⟨g,0,none⟩) rfl _).setCell (p:=⟨g,1,none⟩) rfl _).setCell (p:=⟨g,2,none⟩) rfl _).setCell (p:=⟨g,3,none⟩) rfl _
 exact⟨(((r.set 0 y0).set 1 y1).set 2 y2).set 3 y3,hk,h.keptU hk (r.noU hx)⟩
theorem zhK:∀u∈[Value.bool false,nS_,bF_,nS_],zaM u:=by
 intro u hu;simp at hu;rcases hu with rfl|rfl|rfl|rfl<;>(intro z e;cases e)
theorem noI4'{a c:Bool}{b d:OA}{n2 n3 n4:Nat}:∀u∈[Value.bool a,.slice b n1 n2,.bool c,.slice d n3 n4],zaM u:=by
 intro u hu;simp at hu;rcases hu with rfl|rfl|rfl|rfl<;>(intro z e;cases e)
theorem zd7.mk{w:Wo}{J1:Bool}{ao1:OA}{Y1:Nat}{nh1:Bool}{ap1:OA}{m1 Z1:Nat}{r:Rat}(h:zad w (qA J1 ao1 n1 Y1 nh1 ap1 m1 Z1) r):zd7 w r (.returned (.agg #[.bool J1,.slice ao1 n1 Y1,.bool nh1,.slice ap1 m1 Z1])):=by
 obtain⟨n1',a1',l1',c1',n2',a2',l2',c2',e,h1,h2⟩:=h
 cases e
 exact⟨_,_,_,_,_,_,_,_,rfl,hii h1,hii h2⟩
theorem zb3.rat{w:Wo}{r:Rat}{e:Ending}(h:zb3 w r e):∃J1 ao1 n1 Y1 nh1 ap1 m1 Z1,e=.returned (.tuple #[.agg #[.bool J1,.slice ao1 n1 Y1,.bool nh1,.slice ap1 m1 Z1],.int .i64 0])/\zad w (qA J1 ao1 n1 Y1 nh1 ap1 m1 Z1) r:=by
 obtain⟨n1',a1',l1',c1',n2',a2',l2',c2',e,h1,h2⟩:=h;exact⟨_,_,_,_,_,_,_,_,e,zad.mk' h1 h2⟩
theorem divInt_one(z:Int):Rat.divInt z 1=(z:Rat):=by
 first
  |exact Rat.divInt_one z
  |(rw[Rat.divInt_eq_div,Rat.intCast_one,Rat.div_def];grind)
  |(rw[Rat.divInt_eq_div,Rat.intCast_one];grind)
theorem zaK(z:Int)(hz1:-9223372036854775808<=z)(hz2:z<=9223372036854775807)(w:Wo)(hE:Env w) :
  CP 48 #[.int .i64 z] w λe w'=>zd7 w' (z:Rat) e/\BH w w':=by
 have hbw:=Below.refl w.heap.size w;go_enter func48,ntmps48;go_upto_region 1 with fail;obtain⟨w1,gR,hw9,hg9,hb,rR⟩:=bxr w [bF_,nS_,bF_,nS_] 32;rw[<-hw9,<-hg9];have HgR:Hid (w.heap.size<=gR):=hii (by have:=hbw.size;omega);clear hw9 hg9;have hE:=hE.mono hb;have hbw:=bu hbw hb;clear hb;go_wp2_with fail;go_fit (zno z 1 w1 hz1 hz2 dM dM (hii dM) hE);rintro e w2⟨hR,hb⟩;have rR:=rR.below hb;have hbw:=bu hbw hb;clear hb;rw[divInt_one]at hR;obtain⟨J1,ao1,n1,Y1,nh1,ap1,m1,Z1,rfl,hV⟩:=hR.rat;clear hR;go_upto_region 2 with fail;obtain⟨w3,g3,hw9,hg9,hb,r3⟩:=bxr w2 [.bool J1,.slice ao1 n1 Y1,.bool nh1,.slice ap1 m1 Z1] 32;rw[<-hw9,<-hg9];have Hg3:Hid (w.heap.size<=g3):=hii (by have:=hbw.size;omega);clear hw9 hg9;have hV:=hV.mono hb;have rR:=rR.below hb;have hbw:=bu hbw hb;clear hb;obtain⟨c0,c1,c2,c3⟩:=r3.n4;obtain⟨d0,d1,d2,d3⟩:=rR.n4;have f:=rR.free;go_wp2;obtain⟨q,hk,hV⟩:=zfy rR zhK (.bool J1) (.slice ao1 n1 Y1) (.bool nh1) (.slice ap1 m1 Z1) hV;obtain⟨e0,e1,e2,e3⟩:=q.n4;refine bodyPost_ret (v:=.agg #[.bool J1,.slice ao1 n1 Y1,.bool nh1,.slice ap1 m1 Z1]) (by simp[results,Tryz.results48,go_sem,e0,e1,e2,e3]) rfl ⟨zd7.mk hV,?_⟩;exact cT
theorem zdi{n:Nat}(h:n<65536):IntKind.u16.wrap (n:Int)=(n:Int):=by
 unfold IntKind.wrap;simp only[IntKind.bits,IntKind.signed];simp;omega
theorem zkb(ha:a<65536)(hi:¬i<16):a.testBit i=false :=
 Nat.testBit_lt_two_pow (Nat.lt_of_lt_of_le ha (show 2 ^ 16<=2 ^ i from Nat.pow_le_pow_right dM (Nat.le_of_not_lt hi)))
theorem zkh(a b:Nat)(ha:a<65536):bits .and .u16 (a:Int) (b:Int)=((a &&& b:Nat):Int):=by
 show IntKind.u16.wrap ((BitVec.ofInt 16 (a:Int) &&& BitVec.ofInt 16 (b:Int)).toNat:Int)=_
 have h1:(BitVec.ofInt 16 (a:Int) &&& BitVec.ofInt 16 (b:Int)).toNat=a &&& b:=by
  rw[BitVec.toNat_and,BitVec.ofInt_natCast,BitVec.ofInt_natCast,BitVec.toNat_ofNat,BitVec.toNat_ofNat,Nat.mod_eq_of_lt ha]
  apply Nat.eq_of_testBit_eq
  intro i;rw[Nat.testBit_and,Nat.testBit_and,Nat.testBit_mod_two_pow]
  by_cases hi:i<16
  ·simp[hi]
  ·simp[zkb ha hi]
 rw[h1];exact zdi (Nat.lt_of_le_of_lt Nat.and_le_left ha)
theorem zpv(a b:Nat)(ha:a<65536)(hb:b<65536):bits .or .u16 (a:Int) (b:Int)=((a ||| b:Nat):Int):=by
 show IntKind.u16.wrap ((BitVec.ofInt 16 (a:Int) ||| BitVec.ofInt 16 (b:Int)).toNat:Int)=_
 have h1:(BitVec.ofInt 16 (a:Int) ||| BitVec.ofInt 16 (b:Int)).toNat=a ||| b:=by
  rw[BitVec.toNat_or,BitVec.ofInt_natCast,BitVec.ofInt_natCast,BitVec.toNat_ofNat,BitVec.toNat_ofNat,Nat.mod_eq_of_lt ha,Nat.mod_eq_of_lt hb]
 rw[h1];exact zdi (show a ||| b<2 ^ 16 from Nat.or_lt_two_pow ha hb)
theorem zh8(a b:Nat)(ha:a<65536)(hb:b<65536):(bits .andNot .u16 (b:Int) (a:Int)==0)=decide (a &&& b=b):=by
 have e:bits .andNot .u16 (b:Int) (a:Int)=IntKind.u16.wrap ((BitVec.ofInt 16 (b:Int) &&& ~~~ (BitVec.ofInt 16 (a:Int))).toNat:Int):=rfl;rw[e,BitVec.ofInt_natCast,BitVec.ofInt_natCast];have hA:∀i,i<16->(BitVec.ofNat 16 a).getLsbD i=a.testBit i:=λi hi=>by rw[BitVec.getLsbD_ofNat];simp[hi]
 have hB:∀i,i<16->(BitVec.ofNat 16 b).getLsbD i=b.testBit i:=λi hi=>by rw[BitVec.getLsbD_ofNat];simp[hi]
 generalize BitVec.ofNat 16 a=x at*;generalize BitVec.ofNat 16 b=y at*;have hZ:(y &&& ~~~ x)=0#16↔a &&& b=b:=by
  constructor
  ·intro h
   apply Nat.eq_of_testBit_eq
   intro i;rw[Nat.testBit_and]
   by_cases hi:i<16
   ·have:=congrArg (λv=>v.getLsbD i) h;simp only[BitVec.getLsbD_and,BitVec.getLsbD_not,BitVec.getLsbD_zero,hA i hi,hB i hi]at this
    cases hb':b.testBit i<;>cases ha':a.testBit i<;>simp_all
   ·simp[zkb hb hi]
  ·intro h
   apply BitVec.eq_of_getLsbD_eq
   intro i hi;have:=congrArg (λv=>v.testBit i) h;simp only[Nat.testBit_and]at this;simp only[BitVec.getLsbD_and,BitVec.getLsbD_not,BitVec.getLsbD_zero,hA i hi,hB i hi]
   cases hb':b.testBit i<;>cases ha':a.testBit i<;>simp_all
 have hlt:(y &&& ~~~ x).toNat<65536:=(y &&& ~~~ x).isLt;have h3:((y &&& ~~~ x).toNat:Int)=0↔(y &&& ~~~ x)=0#16:=by
  constructor
  ·intro h;apply BitVec.eq_of_toNat_eq;rw[BitVec.toNat_ofNat];omega
  ·intro h;rw[h];rfl
 rw[zdi hlt,Bool.eq_iff_iff,beq_iff_eq,decide_eq_true_iff,h3,hZ]
theorem zom(r i:Nat)(hr:r<65536):bits .and .u16 ((r:Int) / 2 ^ i) 1=if r.testBit i then 1 else 0:=by
 have e:(r:Int) / 2 ^ i=((r / 2 ^ i:Nat):Int):=by push_cast;rfl
 have h1:=zkh (r / 2 ^ i) 1 (Nat.lt_of_le_of_lt (Nat.div_le_self _ _) hr);rw[e];have h2:bits .and .u16 ((r / 2 ^ i:Nat):Int) 1=bits .and .u16 ((r / 2 ^ i:Nat):Int) ((1:Nat):Int):=rfl;rw[h2,h1,Nat.and_one_is_mod,Nat.testBit_eq_decide_div_mod_eq];rcases Nat.mod_two_eq_zero_or_one (r / 2 ^ i)with h|h<;>simp[h]
def cnt(s:Nat):Nat:=(List.range 16).countP (λi=>s.testBit i)
def zoQ(s:Nat):Nat:=(List.range 8).countP (λi=>s.testBit i)
theorem zhH:∀n:Fin 256,Lib.pop8 (n.val:Int)=(zoQ n.val:Int):=by decide+kernel
theorem zmX(s:Nat):cnt s=zoQ (s / 256)+zoQ (s % 256):=by
 have h1:∀i,i<8->(s % 256).testBit i=s.testBit i:=λi hi=>by
  rw[show(256:Nat)=2 ^ 8 from rfl,Nat.testBit_mod_two_pow];simp[hi]
 have h2:∀i,(s / 256).testBit i=s.testBit (8+i):=λi=>by
  rw[show(256:Nat)=2 ^ 8 from rfl,Nat.testBit_div_two_pow,Nat.add_comm]
 unfold cnt zoQ;rw[show List.range 16=List.range 8++(List.range 8).map (8+·)from by decide,List.countP_append,List.countP_map,Nat.add_comm]
 congr 1
 ·exact List.countP_congr λi _=>by simp[Function.comp,h2]
 ·exact List.countP_congr λi hi=>by rw[h1 i (List.mem_range.1 hi)]
theorem zeJ(s:Nat):cnt s<=16:=by unfold cnt;exact Nat.le_trans List.countP_le_length sM
theorem zo1(x:Nat)(hx:x<65536):Lib.pop8 ((x / 256:Nat):Int)+Lib.pop8 ((x % 256:Nat):Int)=(cnt x:Int)/\0<=Lib.pop8 ((x / 256:Nat):Int)/\0<=Lib.pop8 ((x % 256:Nat):Int):=by
 have h1:=zhH ⟨x / 256,oM⟩;have h2:=zhH ⟨x % 256,oM⟩;simp only at h1 h2;rw[h1,h2,zmX];exact⟨by push_cast;rfl,oM,oM⟩
def bef(a b:Nat):Bool:=decide (cnt a<cnt b) || (decide (cnt a=cnt b) && decide (a<b))
def zfo(a b:Nat):Int:=if a<b then -1 else if b<a then 1 else 0
def znI(a b:Nat):Int:=if zfo (cnt a) (cnt b)=0 then zfo a b else zfo (cnt a) (cnt b)
theorem zlt(a b:Nat):decide (0<=znI a b)=!bef a b:=by
 unfold znI bef zfo
 by_cases h1:cnt a<cnt b
 ·simp[h1]
 ·by_cases h2:cnt b<cnt a
  ·have h3:cnt a≠cnt b:=oM;simp[h1,h2,h3]
  ·have h3:cnt a=cnt b:=oM
   by_cases h4:a<b
   ·simp[h3,h4]
   ·by_cases h5:b<a
    ·simp[h3,h4,h5]
    ·simp[h3,h4,h5]
def zct(a b:Nat):Bool:=decide (a &&& b=b)
def zaF(w:Wo)(ao:OA)(l:LN):Prop:=∀(i:Nat)(x:Nat),l[i]?=some x->∃b off,ao=sD b off/\w.cell? ⟨b,off+i,none⟩=some (.int .u16 (x:Nat))
theorem zaF.mono{w w':Wo}(h:zaF w ao l)(hb:BH w w'):zaF w' ao l:=λi x hx=>by
 obtain⟨b,off,e,hc⟩:=h i x hx;exact eG
theorem zaF.take{w:Wo}(h:zaF w ao l)(n:Nat):zaF w ao (l.take n):=λi x hx=>by
 refine h i x ?_;rw[List.getElem?_take]at hx
 split at hx
 ·exact hx
 ·cases hx
def zaR(l:LN):Prop:=∀x∈l,x<65536
def zeC{α:Type}(p:α->Bool)(l:List α):Int:=match l.findIdx? p with
 |some i=>i
 |none=>-1
theorem zcp{α:Type}{p:α->Bool}{l:List α}{o:α}(hk:l[k]?=some o)(ho:p o=true)(h:∀x∈l.take k,p x=false):zeC p l=k:=by
 have:l.findIdx? p=some k:=by
  rw[List.findIdx?_eq_some_iff_getElem];have hl:k<l.length:=by
   rcases Nat.lt_or_ge k l.length with h|h
   ·exact h
   ·rw[List.getElem?_eq_none h]at hk;cases hk
  exact dF
 unfold zeC;rw[this]
theorem zbL{α:Type}{p:α->Bool}{l:List α}(h:∀x∈l,p x=false):zeC p l=-1:=by
 have:l.findIdx? p=none:=by rw[List.findIdx?_eq_none_iff];exact h
 unfold zeC;rw[this]
theorem zdA{α:Type}(p:α->Bool)(l:List α):decide (0<=zeC p l)=l.any p:=by
 cases h:l.any p with
 |false=>
  rw[List.any_eq_false]at h;rw[zbL (λx hx=>by have:=h x hx;simpa using this)];rfl
 |true=>
  have:(l.findIdx? p).isSome:=by rw[List.findIdx?_isSome];exact h
  unfold zeC
  cases hf:l.findIdx? p with
  |none=>rw[hf]at this;cases this
  |some i=>simp
def zl8(g:Nat)(lb:Array Vl)(p:Nat->Bool)(l:LN)(w:Wo):Prop :=
 ∀(x:Nat)(W:Wo),x∈l->BH w W->CP g (#[.int .u16 (x:Nat)]++lb) W λe W'=>e=.returned (.bool (p x))/\BH W W'
theorem zbG(x:Nat)(hx:x<65536)(w:Wo) :
  CP 40 #[.int .u16 (x:Nat)] w λe w'=>e=.returned (.int .i64 (cnt x:Nat))/\BH w w':=by
 obtain⟨h1,h2,h3⟩:=zo1 x hx;have hc:=zeJ x;have e1:(x:Int) / 256=((x / 256:Nat):Int):=by push_cast;rfl
 have e2:bits .and .u16 (x:Int) 255=((x % 256:Nat):Int):=by
  have:=zkh x 255 hx;rw[show bits .and .u16 (x:Int) 255=bits .and .u16 (x:Int) ((255:Nat):Int)from rfl,this,show(255:Nat)=2 ^ 8-1 from rfl,Nat.and_two_pow_sub_one_eq_mod]
 obtain⟨a,ha⟩:∃a:Int,((x / 256:Nat):Int)=a:=⟨_,rfl⟩;obtain⟨b,hb'⟩:∃b:Int,((x % 256:Nat):Int)=b:=⟨_,rfl⟩;have hal0:0<=a:=oM;have hal:a<=255:=oM;have hbl0:0<=b:=oM;have hbl:b<=255:=oM;rw[ha]at e1 h1 h2;rw[hb']at e2 h1 h3;obtain⟨pa,hpa⟩:∃p,Lib.pop8 a=p:=⟨_,rfl⟩;obtain⟨pb,hpb⟩:∃p,Lib.pop8 b=p:=⟨_,rfl⟩;rw[hpa,hpb]at h1;rw[hpa]at h2;rw[hpb]at h3;obtain⟨c,hcc⟩:∃c,cnt x=c:=⟨_,rfl⟩;rw[hcc]at h1 hc|-;have hw8:IntKind.u8.wrap (c:Int)=(c:Int):=by unfold IntKind.wrap;simp[IntKind.bits,IntKind.signed];omega
 have hw64:IntKind.i64.wrap (c:Int)=(c:Int):=by unfold IntKind.wrap;simp[IntKind.bits,IntKind.signed];omega
 clear ha hb' hcc;go_enter func40,ntmps40;go_upto_region 1 with fail;refine zae (wx:=w) [vf (.int .u16 (x:Nat)),vf (.int .u16 a),vf (.int .u8 pa),vf (.int .u16 (x:Nat)),vf (.int .u16 b),vf (.int .u8 pb),vf (.int .u8 (c:Nat)),vf (.int .i64 (c:Nat)),vf (.int .i64 (c:Nat))] [3,4,5,6,7,8,9,10,2] br zS ⟨tV,tV,tV,tV,tV,tV,tV,tV,tV,trivial⟩ ?he
 case he=>
  rintro T W hb hA;have f8:T 2=.int .i64 (c:Nat):=hA.at 8 dM;simp only[sA,f8];clear hA f8;go_wp2;go_ret;exact⟨rfl,hb⟩
theorem zic(x:Nat)(hx:x<65536)(w:Wo) :
  CP 166 #[.int .u16 (x:Nat)] w λe w'=>e=.returned (.int .i64 (cnt x:Nat))/\BH w w':=by
 go_enter func166,ntmps166;go_wp2_with fail;go_fit (zbG x hx w);rintro e w1⟨rfl,hb⟩;go_wp2;go_ret;exact⟨rfl,hb⟩
theorem zj5(a b:Nat)(ha:a<65536)(hb':b<65536)(w:Wo) :
  CP 165 #[.int .i64 (a:Nat),.int .i64 (b:Nat)] w λe w'=>e=.returned (.int .i64 (zfo a b))/\BH w w':=by
 have hN:∀(x:Nat)(W:Wo),CP 185 #[.int .i64 (x:Nat)] W λe w'=>e=.returned bF_/\BH W w':=λx W=>by
  go_enter func185,ntmps185;go_wp2;go_ret;exact⟨sM,br⟩
 obtain⟨z,hz⟩:∃z,zfo a b=z:=⟨_,rfl⟩;rw[hz];have HZ:=hii hz;clear hz;have hbw:=Below.refl w.heap.size w;go_enter func165,ntmps165;go_wp2_with fail;go_fit (hN a w);rintro e w1⟨rfl,hb⟩;have hbw:=bu hbw hb;clear hb;go_wp2_with fail;go_fit (hN b w1);rintro e w2⟨rfl,hb⟩;have hbw:=bu hbw hb;clear hb hN
 by_cases h1:a<b
 ·have H1:Hid (z=-1):=hii (by rw[<-HZ.o];unfold zfo;rw[if_pos h1]);go_wp2
  all_goals go_ret
  all_goals exact⟨by have:=H1.o;subst this;rfl,hbw⟩
 ·by_cases h2:b<a
  ·have H1:Hid (z=1):=hii (by rw[<-HZ.o];unfold zfo;rw[if_neg h1,if_pos h2]);go_wp2
   all_goals go_ret
   all_goals exact⟨by have:=H1.o;subst this;rfl,hbw⟩
  ·have H1:Hid (z=0):=hii (by rw[<-HZ.o];unfold zfo;rw[if_neg h1,if_neg h2]);go_wp2
   all_goals go_ret
   all_goals exact⟨by have:=H1.o;subst this;rfl,hbw⟩
theorem zj6(a b:Nat)(ha:a<65536)(hb':b<65536)(w:Wo) :
  CP 167 #[.int .u16 (a:Nat),.int .u16 (b:Nat)] w λe w'=>e=.returned (.int .i64 (zfo a b))/\BH w w':=by
 have hN:∀(x:Nat)(W:Wo),CP 186 #[.int .u16 (x:Nat)] W λe w'=>e=.returned bF_/\BH W w':=λx W=>by
  go_enter func186,ntmps186;go_wp2;go_ret;exact⟨sM,br⟩
 obtain⟨z,hz⟩:∃z,zfo a b=z:=⟨_,rfl⟩;rw[hz];have HZ:=hii hz;clear hz;have hbw:=Below.refl w.heap.size w;go_enter func167,ntmps167;go_wp2_with fail;go_fit (hN a w);rintro e w1⟨rfl,hb⟩;have hbw:=bu hbw hb;clear hb;go_wp2_with fail;go_fit (hN b w1);rintro e w2⟨rfl,hb⟩;have hbw:=bu hbw hb;clear hb hN
 by_cases h1:a<b
 ·have H1:Hid (z=-1):=hii (by rw[<-HZ.o];unfold zfo;rw[if_pos h1]);go_wp2
  all_goals go_ret
  all_goals exact⟨by have:=H1.o;subst this;rfl,hbw⟩
 ·by_cases h2:b<a
  ·have H1:Hid (z=1):=hii (by rw[<-HZ.o];unfold zfo;rw[if_neg h1,if_pos h2]);go_wp2
   all_goals go_ret
   all_goals exact⟨by have:=H1.o;subst this;rfl,hbw⟩
  ·have H1:Hid (z=0):=hii (by rw[<-HZ.o];unfold zfo;rw[if_neg h1,if_neg h2]);go_wp2
   all_goals go_ret
   all_goals exact⟨by have:=H1.o;subst this;rfl,hbw⟩
theorem zoA(g:Nat)(x y z:Int)(w:Wo)(hz:Hid (z=if x=0 then y else x))(c0:w.cell? (aD_ g 0)=some (.int .i64 x))(c1:w.cell? (aD_ g 1)=some (.int .i64 y)) :
  CP 164 #[.slice (sD g 0) 2 2] w λe w'=>e=.returned (.int .i64 z)/\BH w w':=by
 have hbw:=Below.refl w.heap.size w
 by_cases hx:x=0
 ·subst hx;have hz:Hid (z=y):=hii (by rw[hz.o,if_pos rfl])
  by_cases hy:y=0
  ·subst hy;go_enter func164,ntmps164;go_wp2;go_loopw [8] (λs wr=>∃k:Nat,k<=2/\s=.int .i64 (k:Nat)/\wr=w) (λs _=>2-(intOf s).toNat)
   case atStart=>exact⟨0,oM,rfl,tM⟩
   case round=>
    obtain⟨k,hk,rfl,rfl⟩:=hrel;obtain rfl|rfl|rfl:k=0\/k=1\/k=2:=oM
    ·go_wp2;go_roundw
     case rel=>exact⟨1,oM,gM,tM⟩
     case measure=>simp[intOf]
    ·go_wp2;go_roundw
     case rel=>exact⟨2,oM,gM,tM⟩
     case measure=>simp[intOf]
    ·go_wp2;go_ret;exact⟨by rw[hz.o];try rfl,hbw⟩
  ·have hy':(y != 0)=true:=by simpa using hy
   go_enter func164,ntmps164;go_wp2;go_loopw [8] (λs wr=>∃k:Nat,k<=1/\s=.int .i64 (k:Nat)/\wr=w) (λs _=>2-(intOf s).toNat)
   case atStart=>exact⟨0,oM,rfl,tM⟩
   case round=>
    obtain⟨k,hk,rfl,rfl⟩:=hrel;obtain rfl|rfl:k=0\/k=1:=oM
    ·go_wp2;go_roundw
     case rel=>exact⟨1,oM,gM,tM⟩
     case measure=>simp[intOf]
    ·go_wp2;go_ret;exact⟨by rw[hz.o];try rfl,hbw⟩
 ·have hx':(x != 0)=true:=by simpa using hx
  have hz:Hid (z=x):=hii (by rw[hz.o,if_neg hx]);go_enter func164,ntmps164;go_wp2;go_loopw [8] (λs wr=>s=.int .i64 0/\wr=w) (λs _=>0)
  case atStart=>exact⟨rfl,tM⟩
  case round=>
   obtain⟨rfl,rfl⟩:=hrel;go_wp2;go_ret;exact⟨by rw[hz.o];try rfl,hbw⟩
theorem zeY(a b:Nat)(ha:a<65536)(hb':b<65536)(w:Wo) :
  CP 133 #[.int .u16 (a:Nat),.int .u16 (b:Nat)] w λe w'=>e=.returned (.int .i64 (znI a b))/\BH w w':=by
 obtain⟨z,hz⟩:∃z,znI a b=z:=⟨_,rfl⟩;rw[hz];have HZ:=hii hz;clear hz;obtain⟨ca,hca⟩:∃c,cnt a=c:=⟨_,rfl⟩;obtain⟨cb,hcb⟩:∃c,cnt b=c:=⟨_,rfl⟩;have l1:=zeJ a;have l2:=zeJ b;have K1:=λW=>zbG a ha W
 have H1:∀W,CP 166 #[.int .u16 (a:Nat)] W λe w'=>e=.returned (.int .i64 (ca:Nat))/\BH W w':=by rw[<-hca];exact λW=>zic a ha W
 have H2:∀W,CP 166 #[.int .u16 (b:Nat)] W λe w'=>e=.returned (.int .i64 (cb:Nat))/\BH W w':=by rw[<-hcb];exact λW=>zic b hb' W
 rw[hca]at l1;rw[hcb]at l2;have HZ:Hid (z=if zfo ca cb=0 then zfo a b else zfo ca cb):=hii (by rw[<-HZ.o];unfold znI;rw[hca,hcb]);obtain⟨x,hx⟩:∃x,zfo ca cb=x:=⟨_,rfl⟩;obtain⟨y,hy⟩:∃y,zfo a b=y:=⟨_,rfl⟩;have H3:∀W,CP 165 #[.int .i64 (ca:Nat),.int .i64 (cb:Nat)] W λe w'=>e=.returned (.int .i64 x)/\BH W w':=by rw[<-hx];exact λW=>zj5 ca cb oM oM W
 have H4:∀W,CP 167 #[.int .u16 (a:Nat),.int .u16 (b:Nat)] W λe w'=>e=.returned (.int .i64 y)/\BH W w':=by rw[<-hy];exact λW=>zj6 a b ha hb' W
 rw[hx,hy]at HZ;clear hca hcb hx hy l1 l2 K1;have hbw:=Below.refl w.heap.size w;go_enter func133,ntmps133;go_wp2_with fail;go_fit (H1 w);rintro e w1⟨rfl,hb⟩;have hbw:=bu hbw hb;clear hb;go_wp2_with fail;go_fit (H2 w1);rintro e w2⟨rfl,hb⟩;have hbw:=bu hbw hb;clear hb;go_wp2_with fail;go_fit (H3 w2);rintro e w3⟨rfl,hb⟩;have hbw:=bu hbw hb;clear hb;go_wp2_with fail;go_fit (H4 w3);rintro e w4⟨rfl,hb⟩;have hbw:=bu hbw hb;clear hb;go_wp2_with fail;have hb:=bA w4 (.cells #[.int .i64 x,.int .i64 y] 3);have r:Row (w4.alloc (.cells #[.int .i64 x,.int .i64 y] 3)) w4.heap.size 3 [.int .i64 x,.int .i64 y]:=heap_alloc_new _ _;obtain⟨g,hg⟩:=exi (w4.heap.size);rw[<-hg]at r|-;clear hg;generalize w4.alloc (.cells #[.int .i64 x,.int .i64 y] 3)=w5 at*;have hbw:=bu hbw hb;clear hb;go_fit (zoA g x y z w5 HZ (r.cell (k:=0) sM) (r.cell (k:=1) sM));rintro e w6⟨rfl,hb⟩;exact dS
theorem zo9(s:Nat)(hs:s<65536):(bits .and .u16 (s:Int) 61440 != 0)=decide (4096<=s):=by
 have h1:=zkh s 61440 hs;rw[show bits .and .u16 (s:Int) 61440=bits .and .u16 (s:Int) ((61440:Nat):Int)from rfl,h1,Bool.eq_iff_iff,bne_iff_ne,decide_eq_true_iff];have h2:(s &&& 61440=0)↔s<4096:=by
  constructor
  ·intro h;refine Nat.lt_of_not_le λhge=>?_
   obtain⟨q,hq⟩:∃q,s / 4096=q:=⟨_,rfl⟩;have hq1:1<=q:=oM;have hq2:q<16:=oM;have hj:∀q:Fin 16,1<=q.val->∃j:Fin 4,q.val.testBit j.val=true:=dM;obtain⟨j,hj⟩:=hj ⟨q,hq2⟩ hq1;have hb:s.testBit (j.val+12)=true:=by
    have:=Nat.testBit_div_two_pow (n:=12) s (i:=j.val);rw[<-this,show(2:Nat) ^ 12=4096 from rfl,hq];exact hj
   have hm:∀j:Fin 4,(61440:Nat).testBit (j.val+12)=true:=dM;have:=congrArg (λv=>v.testBit (j.val+12)) h;simp[Nat.testBit_and,hb,hm j]at this
  ·intro h
   apply Nat.eq_of_testBit_eq
   intro i;rw[Nat.testBit_and,Nat.zero_testBit]
   by_cases hi:i<12
   ·have hm:∀i:Fin 12,(61440:Nat).testBit i.val=false:=dM;rw[hm ⟨i,hi⟩,Bool.and_false]
   ·rw[Nat.testBit_lt_two_pow (Nat.lt_of_lt_of_le h (show 2 ^ 12<=2 ^ i from Nat.pow_le_pow_right dM (Nat.le_of_not_lt hi))),Bool.false_and]
 constructor
 ·intro h;refine Nat.le_of_not_lt λhlt=>h ?_
  rw[h2.2 hlt];rfl
 ·intro h e;have:=h2.1 (by exact_mod_cast e);omega
def zaY:Option Nat->LN->Nat
 |_,[]=>0
 |p,s :: l=>if 4096<=s then 7 else if (match p with|none=>false|some q=>!bef q s)then 1 else zaY (some s) l
def zbE:LN->LN->Nat
 |_,[]=>0
 |e,s :: l=>if e.any (λx=>zct s x)then 1 else zbE (e++[s]) l
def zgb(l:LN):Nat:=if 400<l.length then 3 else if zaY none l≠0 then zaY none l else zbE [] l
def zhG(l:LN)(k:Nat):Option Nat:=if k=0 then none else l[k-1]?
theorem zc3{α:Type}{l:List α}{x:α}(h:l[k]?=some x):l.drop k=x :: l.drop (k+1):=by
 obtain⟨hk,rfl⟩:=List.getElem?_eq_some_iff.1 h;exact List.drop_eq_getElem_cons hk
theorem zaw{α:Type}{l:List α}{x:α}(h:l[k]?=some x):l.take (k+1)=l.take k++[x]:=by
 rw[List.take_add_one,h];rfl
def zec(l:LN):Nat:=l.foldl (· ||| ·) 0
theorem zi0{x:Nat}(h:l[k]?=some x):zec (l.take (k+1))=zec (l.take k) ||| x:=by
 unfold zec;rw[zaw h,List.foldl_append];rfl
theorem zgx(h:zaR l):zec l<65536:=by
 have key:∀(l:LN)(a:Nat),a<65536->(∀x∈l,x<65536)->l.foldl (· ||| ·) a<65536:=by
  intro l
  induction l with
  |nil=>intro a ha _;exact ha
  |cons x l ih=>intro a ha hx;exact ih _ (show a ||| x<2 ^ 16 from Nat.or_lt_two_pow ha (hx x sM)) λy hy=>hx y (by simp[hy])
 exact key l 0 dM h
theorem ziQ(g:Nat)(lb:Array Vl)(p:Nat->Bool)(eg:∀args w,(callFunc g args).run Tryz.prog w=.ok (.enter g args) w)(l:LN)(aa:OA)(ca:Nat)(w:Wo)(hl:l.length<=9223372036854775807)(ua:zaF w aa l)(hp:zl8 g lb p l w) :
  CP 85 #[.slice aa l.length ca,.func (.func g) #[] lb] w λe w'=>e=.returned (.int .i64 (zeC p l))/\BH w w':=by
 have hbw:=Below.refl w.heap.size w;have hp:=hii hp;go_enter func85,ntmps85;go_wp2_with fail;go_loopw [8] (λs wr=>∃k:Nat,k<=l.length/\s=.int .i64 k/\Hid (∀x∈l.take k,p x=false)/\BH w wr) (λs _=>l.length-(intOf s).toNat)
 case atStart=>exact⟨0,Nat.zero_le _,rfl,hii sM,hbw⟩
 case round=>
  clear hbw;obtain⟨k,hk,rfl,HN,hbw⟩:=hrel
  by_cases hlt:k<l.length
  ·obtain⟨x,hx⟩:∃x,l[k]?=some x:=⟨l[k],gE hlt⟩;obtain⟨b1,off1,ea,hc⟩:=(ua.mono hbw) k x hx;have hcall:=hp.o x wr (List.mem_of_getElem? hx) hbw;have Hx:=hii hx;clear hx ua;subst ea
   cases hq:p x with
   |true=>
    rw[hq]at hcall;have Hq:=hii hq;clear hq;go_wp2_with (go_at_fn g;refine hcall.mono ?_;rintro e v2⟨rfl,hb⟩);have hbw:=bu hbw hb;go_ret;exact⟨by rw[zcp Hx.o Hq.o HN.o];rfl,hbw⟩
   |false=>
    rw[hq]at hcall;have Hq:=hii hq;clear hq;go_wp2_with (go_at_fn g;refine hcall.mono ?_;rintro e v2⟨rfl,hb⟩);have hbw:=bu hbw hb;go_roundw
    case rel=>
     refine⟨k+1,oM,gM,hii λy hy=>?_,hbw⟩;rw[zaw Hx.o]at hy;rcases List.mem_append.1 hy with h|h
     ·exact HN.o y h
     ·simp at h;subst h;exact Hq.o
    case measure=>exact mM
  ·exact dC
theorem zc8(g:Nat)(lb:Array Vl)(p:Nat->Bool)(eg:∀args w,(callFunc g args).run Tryz.prog w=.ok (.enter g args) w)(l:LN)(aa:OA)(ca:Nat)(w:Wo)(hl:l.length<=9223372036854775807)(ua:zaF w aa l)(hp:zl8 g lb p l w) :
  CP 38 #[.slice aa l.length ca,.func (.func g) #[] lb] w λe w'=>e=.returned (.bool (l.any p))/\BH w w':=by
 have hC:=ziQ g lb p eg l aa ca w hl ua hp;rw[<-zdA];generalize zeC p l=i at hC|-;clear ua hp eg;go_enter func38,ntmps38;go_wp2_with fail;(with_reducible refine hC.mono ?_);rintro e v2⟨rfl,hb⟩;go_wp2
 all_goals go_ret
 all_goals exact⟨by simp_all,hb⟩
theorem zg7(a b:Nat)(ha:a<65536)(hb':b<65536)(w:Wo) :
  CP 169 #[.int .u16 (a:Nat),.int .u16 (b:Nat)] w λe w'=>e=.returned (.bool (zct a b))/\BH w w':=by
 have e1:=zh8 a b ha hb';obtain⟨z,hz⟩:∃z,zct a b=z:=⟨_,rfl⟩;have e2:(bits .andNot .u16 (b:Int) (a:Int)==0)=z:=by rw[e1,<-hz];rfl
 rw[hz];clear e1 hz;go_enter func169,ntmps169;exact dT
theorem zhc(a b g:Nat)(ha:a<65536)(hb':b<65536)(w:Wo)(hc:w.cell? (aD_ g 0)=some (.int .u16 (a:Nat))) :
  CP 168 #[.int .u16 (b:Nat),pT g 0] w λe w'=>e=.returned (.bool (zct a b))/\BH w w':=by
 go_enter func168,ntmps168;go_wp2_with fail;go_fit (zg7 a b ha hb' w);rintro e w1⟨rfl,hb⟩;go_wp2;go_ret;exact⟨rfl,hb⟩
theorem ziU(l:LN)(s:Nat)(aa:OA)(ca:Nat)(w:Wo)(hl:l.length<=9223372036854775807)(ua:zaF w aa l)(h16:Hid (zaR l))(hs:s<65536) :
  CP 134 #[.slice aa l.length ca,.int .u16 (s:Nat)] w λe w'=>e=.returned (.bool (l.any (λx=>zct s x)))/\BH w w':=by
 have hbw:=Below.refl w.heap.size w;obtain⟨z,hz⟩:∃z,(l.any λx=>zct s x)=z:=⟨_,rfl⟩;rw[hz];have Hz:=hii hz;clear hz;go_enter func134,ntmps134;go_upto_region 1 with fail;obtain⟨w1,g3,hw9,hg9,hb,r3⟩:=bxr w [.int .u16 (s:Nat)] 52;rw[<-hw9,<-hg9];have Hg3:Hid (w.heap.size<=g3):=hii (by have:=hbw.size;omega);clear hw9 hg9;have ua:=ua.mono hb;have hbw:=bu hbw hb;clear hb;have eg:∀args w,(callFunc 168 args).run Tryz.prog w=.ok (.enter 168 args) w:=enters_of func168 (by kernel_rfl) rfl;have HC:=hii (zc8 168 #[pT g3 0] (λx=>zct s x) eg l aa ca w1 hl ua (λx W hx hb=>zhc s x g3 hs (h16.o x hx) W ((r3.below hb).cell (k:=0) sM)));rw[Hz.o]at HC;clear eg;have c0:=r3.cell (k:=0) sM;go_wp2_with fail;(with_reducible refine HC.o.mono ?_);rintro e w2⟨rfl,hb⟩;exact dS
theorem zdg(l:LN)(aa:OA)(ca:Nat)(w:Wo)(hl:l.length<=9223372036854775807)(ua:zaF w aa l)(h16:Hid (zaR l)) :
  CP 37 #[.slice aa l.length ca] w λe w'=>e=.returned (.int .u16 (zec l:Nat))/\BH w w':=by
 have hbw:=Below.refl w.heap.size w;go_enter func37,ntmps37;go_wp2_with fail;go_loopw [3,8] (λu s wr=>∃k:Nat,k<=l.length/\s=.int .i64 k/\u=.int .u16 (zec (l.take k):Nat)/\wr=w) (λ_ s _=>l.length-(intOf s).toNat)
 case atStart=>exact⟨0,Nat.zero_le _,rfl,rfl,tM⟩
 case round=>
  obtain⟨k,hk,rfl,rfl,rfl⟩:=hrel
  by_cases hlt:k<l.length
  ·obtain⟨x,hx⟩:∃x,l[k]?=some x:=⟨l[k],gE hlt⟩;obtain⟨b1,off1,ea,hc⟩:=ua k x hx;have e1:=zpv (zec (l.take k)) x (zgx λy hy=>h16.o y (List.mem_of_mem_take hy)) (h16.o x (List.mem_of_getElem? hx));rw[<-zi0 hx]at e1;obtain⟨u,hu⟩:∃u,zec (l.take k)=u:=⟨_,rfl⟩;obtain⟨u',hu'⟩:∃u,zec (l.take (k+1))=u:=⟨_,rfl⟩;rw[hu,hu']at e1;rw[hu];have HU:=hii hu';clear hx ua hu hu';subst ea;go_wp2;go_roundw
   case rel=>exact⟨k+1,oM,gM,by rw[HU.o],tM⟩
   case measure=>exact mM
  ·obtain rfl:k=l.length:=oM;rw[List.take_length];exact cP
theorem zg2(l:LN)(aa:OA)(ca:Nat)(w:Wo)(hl:l.length<=9223372036854775807)(hca:l.length<=ca)(ua:zaF w aa l)(h16:Hid (zaR l)) :
  CP 84 #[.slice aa l.length ca] w λe w'=>e=.returned (.int .i64 (zgb l:Nat))/\BH w w':=by
 have hbw:=Below.refl w.heap.size w;obtain⟨E,hE⟩:∃E,zgb l=E:=⟨_,rfl⟩;rw[hE];have HE:=hii hE;clear hE;go_enter func84,ntmps84
 by_cases h4:400<l.length
 ·have HE1:Hid (E=3):=hii (by rw[<-HE.o];unfold zgb;rw[if_pos h4]);have h4':decide ((400:Int)<(l.length:Int))=true:=decide_eq_true oM;clear ua HE;exact cZ
 have h4':decide ((400:Int)<(l.length:Int))=false:=decide_eq_false oM;have HE:Hid (E=if zaY none l≠0 then zaY none l else zbE [] l):=hii (by rw[<-HE.o];unfold zgb;rw[if_neg h4]);have HL:=hii h4;clear h4;go_wp2_with fail;go_loopw [12] (λs wr=>∃k:Nat,k<=l.length/\s=.int .i64 k/\Hid (zaY none l=zaY (zhG l k) (l.drop k))/\BH w wr) (λs _=>l.length-(intOf s).toNat)
 case atStart=>exact⟨0,Nat.zero_le _,rfl,hii rfl,hbw⟩
 case round=>
  clear hbw;obtain⟨k,hk,rfl,HN,hbw⟩:=hrel
  by_cases hlt:k<l.length
  ·obtain⟨x,hx⟩:∃x,l[k]?=some x:=⟨l[k],gE hlt⟩;obtain⟨b1,off1,ea,hc⟩:=(ua.mono hbw) k x hx;have hx16:=h16.o x (List.mem_of_getElem? hx);have h7:=zo9 x hx16;have HN:Hid (zaY none l=if 4096<=x then 7 else if (match zhG l k with|none=>false|some q=>!bef q x)then 1 else zaY (some x) (l.drop (k+1))):=hii (by rw[HN.o,zc3 hx];rfl);have Hp:Hid (zhG l (k+1)=some x):=hii (by unfold zhG;rw[if_neg oM];exact hx)
   by_cases hx4:4096<=x
   ·have h7:(bits .and .u16 (x:Int) 61440 != 0)=true:=by rw[h7];exact decide_eq_true hx4
    have HE1:Hid (E=7):=hii (by rw[HE.o,HN.o,if_pos hx4];rfl);clear HE HN hx ua Hp;subst ea;exact cZ
   ·have h7:(bits .and .u16 (x:Int) 61440 != 0)=false:=by rw[h7];exact decide_eq_false hx4
    by_cases hk0:k=0
    ·subst hk0;have HN1:Hid (zaY none l=zaY (zhG l (0+1)) (l.drop (0+1))):=hii (by rw[HN.o,if_neg hx4,Hp.o];rfl);clear HN Hp hx ua;subst ea;rw[Nat.add_zero]at hc;have hk0:decide ((0:Int)<((0:Nat):Int))=false:=rfl;go_wp2;go_roundw
     case rel=>exact⟨0+1,oM,gM,HN1,hbw⟩
     case measure=>exact mM
    ·obtain⟨q,hq⟩:∃q,l[k-1]?=some q:=⟨l[k-1]'oM,gE _⟩;obtain⟨b2,off2,ea2,hc2⟩:=(ua.mono hbw) (k-1) q hq;have hq16:=h16.o q (List.mem_of_getElem? hq);have HN:Hid (zaY none l=if (!bef q x)=true then 1 else zaY (some x) (l.drop (k+1))):=hii (by
      rw[HN.o,if_neg hx4];unfold zhG;rw[if_neg hk0,hq])
     have hK:=zeY q x hq16 hx16 wr;have hB:=zlt q x;obtain⟨z,hz⟩:∃z,znI q x=z:=⟨_,rfl⟩;rw[hz]at hK hB;have HK:=hii hK;subst ea
     cases ea2
     have hkp:decide ((0:Int)<(k:Int))=true:=decide_eq_true oM;have hk1:(k:Int)-1=((k-1:Nat):Int):=oM;clear hx hq ua hK hz
     cases hbf:bef q x with
     |true=>
      rw[hbf]at hB;have hz0:decide (0<=z)=false:=hB;have HN1:Hid (zaY none l=zaY (zhG l (k+1)) (l.drop (k+1))):=hii (by rw[HN.o,hbf,Hp.o];rfl);clear HN Hp hbf hB;go_wp2_with fail;(with_reducible refine HK.o.mono ?_);rintro e w2⟨rfl,hb⟩;have hbw:=bu hbw hb;clear hb HK hc hc2;go_wp2;go_roundw
      case rel=>exact⟨k+1,oM,gM,HN1,hbw⟩
      case measure=>exact mM
     |false=>
      rw[hbf]at hB;have hz0:decide (0<=z)=true:=hB;have HE1:Hid (E=1):=hii (by rw[HE.o,HN.o,hbf];rfl);clear HN Hp hbf hB HE;go_wp2_with fail;(with_reducible refine HK.o.mono ?_);rintro e w2⟨rfl,hb⟩;have hbw:=bu hbw hb;clear hb HK hc hc2;exact cZ
  ·obtain rfl:k=l.length:=oM;have HE:Hid (E=zbE [] l):=hii (by rw[HE.o,if_neg];rw[HN.o,List.drop_length];simp[zaY]);have hbw0:=hbw;clear HN hbw;go_wp2_with fail;go_loopw [37] (λs wr=>∃k:Nat,k<=l.length/\s=.int .i64 k/\Hid (zbE [] l=zbE (l.take k) (l.drop k))/\BH w wr) (λs _=>l.length-(intOf s).toNat)
   case atStart=>exact⟨0,Nat.zero_le _,rfl,hii rfl,hbw0⟩
   case round=>
    clear hbw0;obtain⟨k,hk,rfl,HN,hbw⟩:=hrel
    by_cases hlt:k<l.length
    ·obtain⟨x,hx⟩:∃x,l[k]?=some x:=⟨l[k],gE hlt⟩;obtain⟨b1,off1,ea,hc⟩:=(ua.mono hbw) k x hx;have hx16:=h16.o x (List.mem_of_getElem? hx);have HN:Hid (zbE [] l=if (l.take k).any (λy=>zct x y)then 1 else zbE (l.take (k+1)) (l.drop (k+1))):=hii (by rw[HN.o,zc3 hx,zaw hx];rfl);have hA:=ziU (l.take k) x aa ca wr (by simp;omega) ((ua.mono hbw).take k) (hii λy hy=>h16.o y (List.mem_of_mem_take hy)) hx16;rw[List.length_take,Nat.min_eq_left hk]at hA;obtain⟨z,hz⟩:∃z,((l.take k).any λy=>zct x y)=z:=⟨_,rfl⟩;rw[hz]at hA HN;have HA:=hii hA;have hkc:(k:Int)<=(ca:Int):=oM;subst ea;clear hx ua hA hz
     cases z with
     |true=>
      have HE1:Hid (E=1):=hii (by rw[HE.o,HN.o];rfl);clear HN HE;go_wp2_with fail;(with_reducible refine HA.o.mono ?_);rintro e w2⟨rfl,hb⟩;have hbw:=bu hbw hb;clear hb HA hc;exact cZ
     |false=>
      have HN1:Hid (zbE [] l=zbE (l.take (k+1)) (l.drop (k+1))):=hii (by rw[HN.o];rfl);clear HN;go_wp2_with fail;(with_reducible refine HA.o.mono ?_);rintro e w2⟨rfl,hb⟩;have hbw:=bu hbw hb;clear hb HA hc;go_wp2;go_roundw
      case rel=>exact⟨k+1,oM,gM,HN1,hbw⟩
      case measure=>exact mM
    ·obtain rfl:k=l.length:=oM;have HE1:Hid (E=0):=hii (by rw[HE.o,HN.o,List.drop_length];rfl);clear HN HE;exact cZ
theorem zbk(a:Nat):bef a a=false:=by simp[bef]
theorem zc7{b c:Nat}(h1:bef a b=true)(h2:bef b c=true):bef a c=true:=by
 unfold bef at*;simp only[Bool.or_eq_true,decide_eq_true_eq,Bool.and_eq_true]at*;omega
theorem zm6(a b:Nat):bef a b=true\/a=b\/bef b a=true:=by
 unfold bef;simp only[Bool.or_eq_true,decide_eq_true_eq,Bool.and_eq_true];omega
theorem zdo{α:Type}{p q:α->Bool}:∀(l:List α),(∀x∈l,p x=true->q x=true)->l.countP p<=l.countP q
 |[],_=>nl
 |y :: l,h=>by
  have ih:=zdo l λx hx=>h x (by simp[hx])
  have hy:=h y sM;rw[List.countP_cons,List.countP_cons]
  cases hp:p y
  ·simp;omega
  ·simp[hy hp,ih]
theorem zdn{α:Type}{p q:α->Bool}:∀(l:List α),(∀x∈l,p x=true->q x=true)->(∃x∈l,p x=false/\q x=true)->l.countP p<l.countP q
 |[],_,h=>by obtain⟨x,hx,_⟩:=h;simp at hx
 |y :: l,h,he=>by
  have hl:∀x∈l,p x=true->q x=true:=λx hx=>h x (by simp[hx])
  obtain⟨x,hx,hp,hq⟩:=he;rw[List.countP_cons,List.countP_cons];rcases List.mem_cons.1 hx with rfl|hx
  ·have:=zdo l hl;simp[hp,hq];omega
  ·have ih:=zdn l hl ⟨x,hx,hp,hq⟩;have hy:=h y sM
   cases hp:p y
   ·simp;omega
   ·simp[hy hp,ih]
theorem zho{b:Nat}(h:zct a b=true)(i:Nat)(hi:b.testBit i=true):a.testBit i=true:=by
 unfold zct at h;rw[decide_eq_true_eq]at h;rw[<-h,Nat.testBit_and]at hi;simp at hi;exact hi.1
theorem zi7{b:Nat}(ha:a<65536)(h:zct a b=true)(hne:b≠a):bef b a=true:=by
 have hex:∃i,i<16/\b.testBit i=false/\a.testBit i=true:=by
  refine Classical.byContradiction λhno=>hne (Nat.eq_of_testBit_eq λi=>?_)
  cases hb:b.testBit i with
  |true=>rw[zho h i hb]
  |false=>
   cases hq:a.testBit i with
   |false=>rfl
   |true=>
    refine absurd ⟨i,?_,hb,hq⟩ hno;refine Nat.lt_of_not_le λhge=>?_
    rw[zkb ha oM]at hq
    cases hq
 obtain⟨i,hi,hb,hq⟩:=hex;have hlt:cnt b<cnt a:=by
  unfold cnt;exact zdn _ (λx _ hx=>zho h x hx) ⟨i,List.mem_range.2 hi,hb,hq⟩
 unfold bef;simp[hlt]
def zdV:LN->Nat->LN
 |[],x=>[x]
 |y :: l,x=>if bef y x then y :: zdV l x else if y=x then y :: l else x :: y :: l
def za4(l:LN):LN:=l.foldl zdV []
theorem zl3:∀(out:LN)(x k:Nat),(∀y∈out.take k,bef y x=true)->k<=out.length->(∀y,out[k]?=some y->bef y x=false) ->
  zdV out x=if out[k]?=some x then out else out.take k++x :: out.drop k
 |[],x,k,_,hk,_=>by
  obtain rfl:k=0:=by simpa using hk
  simp[zdV]
 |y :: out,x,0,_,_,h=>by
  have:=h y rfl;simp[zdV,this]
 |y :: out,x,k+1,h1,hk,h2=>by
  have hy:=h1 y sM;have ih:=zl3 out x k (λz hz=>h1 z (by simp[hz])) (by simpa using hk) (λz hz=>h2 z (by simpa using hz));simp[zdV,hy,ih]
  split<;>simp_all
theorem zg0:∀{l:LN} {x z:Nat},z∈zdV l x↔z=x\/z∈l
 |[],x,z=>by simp[zdV]
 |y :: l,x,z=>by
  simp only[zdV]
  split
  ·simp only[List.mem_cons,zg0]
   constructor
   ·rintro(h|h|h)<;>simp[h]
   ·rintro(h|h|h)<;>simp[h]
  ·split
   ·next h=>subst h;simp
   ·simp
theorem zhR:∀{l:LN} {x:Nat},l.Pairwise (λa b=>bef a b=true)->(zdV l x).Pairwise (λa b=>bef a b=true)
 |[],x,_=>by simp[zdV]
 |y :: l,x,h=>by
  obtain⟨h1,h2⟩:=List.pairwise_cons.1 h;simp only[zdV]
  split
  ·next hy=>
   refine List.pairwise_cons.2 ⟨λz hz=>?_,zhR h2⟩;rcases zg0.1 hz with rfl|hz
   ·exact hy
   ·exact h1 z hz
  ·next hy=>
   split
   ·exact h
   ·next hne=>
    have hxy:bef x y=true:=by
     rcases zm6 y x with h|h|h
     ·exact absurd h hy
     ·exact absurd h hne
     ·exact h
    refine List.pairwise_cons.2 ⟨λz hz=>?_,h⟩;rcases List.mem_cons.1 hz with rfl|hz
    ·exact hxy
    ·exact zc7 hxy (h1 z hz)
theorem zjJ:∀(l:LN)(x:Nat),(zdV l x).length<=l.length+1
 |[],x=>by simp[zdV]
 |y :: l,x=>by
  have:=zjJ l x;simp only[zdV]
  split
  ·simp;omega
  ·split<;>simp
theorem zi9(l:LN)(x:Nat):za4 (l++[x])=zdV (za4 l) x:=by unfold za4;rw[List.foldl_append];rfl
theorem zi8{x:Nat}(h:l[k]?=some x):za4 (l.take (k+1))=zdV (za4 (l.take k)) x:=by
 rw[List.take_add_one,h];exact zi9 _ _
theorem zdC:∀(l out:LN),out.Pairwise (λa b=>bef a b=true)->(l.foldl zdV out).Pairwise (λa b=>bef a b=true)/\(∀z,z∈l.foldl zdV out↔z∈out\/z∈l)/\(l.foldl zdV out).length<=out.length+l.length
 |[],out,h=>⟨h,λz=>by simp,nl⟩
 |x :: l,out,h=>by
  obtain⟨h1,h2,h3⟩:=zdC l (zdV out x) (zhR h);refine⟨h1,λz=>?_,?_⟩
  ·rw[List.foldl_cons,h2,zg0,List.mem_cons]
   constructor
   ·rintro((h|h)|h)<;>simp[h]
   ·rintro(h|h|h)<;>simp[h]
  ·have:=zjJ out x;rw[List.foldl_cons];simp only[List.length_cons]at h3|-;omega
theorem zfH(l:LN):(za4 l).Pairwise (λa b=>bef a b=true):=(zdC l [] List.Pairwise.nil).1
theorem zcP{z:Nat}:z∈za4 l↔z∈l:=by have:=(zdC l [] List.Pairwise.nil).2.1 z;simpa [za4]using this
theorem zeU(l:LN):(za4 l).length<=l.length:=by have:=(zdC l [] List.Pairwise.nil).2.2;simpa [za4]using this
def zfd(s:LN)(i:Nat):Bool:=(List.range s.length).all λk=>decide (i=k) || !zct (s.getD i 0) (s.getD k 0)
def za5(s:LN)(n:Nat):LN:=(List.range n).flatMap λi=>if zfd s i then [s.getD i 0]else []
def zcz(l:LN):LN:=za5 (za4 l) (za4 l).length
theorem zch(s:LN)(n:Nat):za5 s (n+1)=za5 s n++(if zfd s n then [s.getD n 0]else []):=by
 unfold za5;rw[List.range_succ,List.flatMap_append];simp
theorem zcE(s:LN):∀n,(za5 s n).length<=n
 |0=>by simp[za5]
 |n+1=>by
  have:=zcE s n;rw[zch,List.length_append]
  split<;>simp<;>omega
theorem zb0{s:LN}{n x:Nat}(h:x∈za5 s n):∃i,i<n/\zfd s i=true/\x=s.getD i 0:=by
 unfold za5 at h;obtain⟨i,hi,hx⟩:=List.mem_flatMap.1 h
 split at hx
 ·next hl=>simp at hx;exact⟨i,List.mem_range.1 hi,hl,hx⟩
 ·simp at hx
theorem zdB(h:i<l.length):l.getD i 0=l[i]:=by
 rw[List.getD_eq_getElem?_getD,gE h];rfl
theorem zhJ{s:LN}(hs:s.Pairwise (λa b=>bef a b=true))(hik:i<k)(hk:k<s.length):bef (s.getD i 0) (s.getD k 0)=true:=by
 rw[zdB hk,zdB oM];exact List.pairwise_iff_getElem.1 hs i k oM hk hik
theorem zdm{s:LN}(hs:s.Pairwise (λa b=>bef a b=true)):∀n,n<=s.length->(za5 s n).Pairwise (λa b=>bef a b=true)
 |0,_=>by simp[za5]
 |n+1,hn=>by
  rw[zch];refine List.pairwise_append.2 ⟨zdm hs n oM,by split<;>simp,λa ha b hb=>?_⟩
  split at hb
  ·simp at hb;subst hb;obtain⟨i,hi,_,rfl⟩:=zb0 ha;exact zhJ hs hi oM
  ·simp at hb
theorem zjF{s:LN}(h:zfd s i=true)(hk:k<s.length)(hik:i≠k):zct (s.getD i 0) (s.getD k 0)=false:=by
 unfold zfd at h;rw[List.all_eq_true]at h;have:=h k (List.mem_range.2 hk);simp[hik]at this;exact this
structure zoU(l:LN):Prop where
 pair:l.Pairwise (λa b=>bef a b=true)
 anti:∀x∈l,∀y∈l,x≠y->zct x y=false
theorem ziB(l:LN):zoU (zcz l):=by
 have hs:=zfH l;refine⟨zdm hs _ nl,λx hx y hy hne=>?_⟩;obtain⟨i,hi,hl,rfl⟩:=zb0 hx;obtain⟨k,hk,_,rfl⟩:=zb0 hy;exact zjF hl hk λe=>hne (by rw[e])
theorem zez{x:Nat}(h:x∈zcz l):x∈l:=by
 obtain⟨i,hi,_,rfl⟩:=zb0 h;rw[zdB hi];exact zcP.1 (List.getElem_mem hi)
theorem ziA(l:LN):(zcz l).length<=l.length:=Nat.le_trans (zcE _ _) (zeU l)
theorem zjG(h16:∀x∈l,x<65536)(h:l≠[]):zcz l≠[]:=by
 obtain⟨x,l',rfl⟩:=List.exists_cons_of_ne_nil h;have hs:=zfH (x :: l');have hx:x∈za4 (x :: l'):=zcP.2 sM;have hn:0<(za4 (x :: l')).length:=List.length_pos_of_mem hx;have h0:zfd (za4 (x :: l')) 0=true:=by
  unfold zfd;rw[List.all_eq_true];intro k hk;have hk:=List.mem_range.1 hk
  by_cases hk0:0=k
  ·simp[hk0]
  ·have hb:=zhJ hs (show 0<k by omega) hk;have h6:(za4 (x :: l')).getD 0 0<65536:=by
    rw[zdB hn];exact h16 _ (zcP.1 (List.getElem_mem hn))
   have:zct ((za4 (x :: l')).getD 0 0) ((za4 (x :: l')).getD k 0)=false:=by
    refine Bool.eq_false_iff.2 λhsub=>?_
    have hne:(za4 (x :: l')).getD k 0≠(za4 (x :: l')).getD 0 0:=λe=>by rw[e,zbk]at hb;cases hb
    have h2:=zi7 h6 hsub hne;have:=zc7 hb h2;rw[zbk]at this
    cases this
   show(decide (0=k) || !zct ((za4 (x :: l')).getD 0 0) ((za4 (x :: l')).getD k 0))=true
   rw[this,Bool.not_false,Bool.or_true]
 intro e;have:(za4 (x :: l')).getD 0 0∈zcz (x :: l'):=by
  unfold zcz za5;exact List.mem_flatMap.2 ⟨0,List.mem_range.2 hn,by rw[h0];simp⟩
 rw[e]at this;simp at this
theorem zhW:∀(l:LN)(p:Option Nat),(∀x∈l,x<4096)->l.Pairwise (λa b=>bef a b=true)->(∀q,p=some q->∀x∈l,bef q x=true)->zaY p l=0
 |[],_,_,_,_=>rfl
 |s :: l,p,h1,h2,h3=>by
  have hs:=h1 s sM;obtain⟨h4,h5⟩:=List.pairwise_cons.1 h2;have ih:=zhW l (some s) (λx hx=>h1 x (by simp[hx])) h5 λq hq x hx=>by cases hq;exact h4 x hx
  unfold zaY;rw[if_neg oM]
  cases p with
  |none=>simp[ih]
  |some q=>simp[h3 q rfl s sM,ih]
theorem zhV:∀(l e:LN),(∀x∈e++l,∀y∈e++l,x≠y->zct x y=false)->(e++l).Pairwise (λa b=>bef a b=true)->zbE e l=0
 |[],_,_,_=>rfl
 |s :: l,e,h1,h2=>by
  have h2':=h2;rw[show e++s :: l=e++[s]++l by simp]at h1 h2;have ih:=zhV l (e++[s]) h1 h2;unfold zbE;rw[if_neg,ih];rw[Bool.not_eq_true,List.any_eq_false];intro x hx;rw[Bool.not_eq_true];refine h1 s sM x (by simp[hx]) λe0=>?_
  subst e0;have:=(List.pairwise_append.1 h2').2.2 s hx s sM;rw[zbk]at this
  cases this
theorem zoU.err(h:zoU l)(hl:l.length<=400)(h4:∀x∈l,x<4096):zgb l=0:=by
 unfold zgb;rw[if_neg oM,zhW l none h4 h.pair (λq hq=>by cases hq),if_neg sM];exact zhV l [] (by simpa using h.anti) (by simpa using h.pair)
structure zfA(l:LN)(n:Nat):Prop where
 fam:zoU l
 len:1<=l.length/\l.length<=400
 ne:∀x∈l,x≠0
 low:∀x∈l,x<2 ^ n
theorem zfA.err{n:Nat}(h:zfA l n)(hn:n<=12):zgb l=0 :=
 h.fam.err h.len.2 λx hx=>Nat.lt_of_lt_of_le (h.low x hx) (show 2 ^ n<=2 ^ 12 from Nat.pow_le_pow_right dM hn)
theorem zfA.s16{n:Nat}(h:zfA l n)(hn:n<=12):zaR l:=λx hx=>Nat.lt_of_lt_of_le (h.low x hx) (Nat.le_trans (Nat.pow_le_pow_right dM hn) dM)
theorem zfA.uni{n:Nat}(h:zfA l n):zec l<2 ^ n:=by
 have key:∀(l:LN)(a:Nat),a<2 ^ n->(∀x∈l,x<2 ^ n)->l.foldl (· ||| ·) a<2 ^ n:=by
  intro l
  induction l with
  |nil=>intro a ha _;exact ha
  |cons x l ih=>intro a ha hx;exact ih _ (Nat.or_lt_two_pow ha (hx x sM)) λy hy=>hx y (by simp[hy])
 exact key l 0 (Nat.two_pow_pos n) h.low
theorem zkc{x n:Nat}(h0:x≠0)(h:x<2 ^ n):∃i,i<n/\x.testBit i=true:=by
 refine Classical.byContradiction λhno=>h0 (Nat.eq_of_testBit_eq λi=>?_)
 rw[Nat.zero_testBit]
 by_cases hi:i<n
 ·cases hb:x.testBit i with
  |false=>rfl
  |true=>exact absurd ⟨i,hi,hb⟩ hno
 ·exact Nat.testBit_lt_two_pow (Nat.lt_of_lt_of_le h (Nat.pow_le_pow_right dM oM))
theorem zbW{q:Nat×Nat}(h:q∈prs R S):q.1∈R/\q.2∈S:=by
 unfold prs at h;obtain⟨r,hr,h⟩:=List.mem_flatMap.1 h;obtain⟨s,hs,rfl⟩:=List.mem_map.1 h;exact⟨hr,hs⟩
theorem zbX(R S:LN):(prs R S).length=R.length*S.length:=by
 unfold prs
 induction R with
 |nil=>simp
 |cons r R ih=>rw[List.flatMap_cons,List.length_append,ih,List.length_map,List.length_cons,Nat.add_mul];omega
structure WkM(R S:LN)(f:Rat)(cap:List Rat)(m:Nat):Prop where
 hm:1<=m/\m<=5
 fR:zfA R m
 fS:zfA S m
 n9:R.length*S.length<=9
 lc:cap.length=m
 f0:0<=f
 f1:f<=1
 wf:Sx.Wh (f*((12:Nat):Rat)) 12
 wc:∀c∈cap,Sx.Wh (c*((12:Nat):Rat)) 96
 pc:∀c∈cap,0<c
theorem WkM.wk{f:Rat}{cap:List Rat}{m:Nat}(W:WkM R S f cap m):Wk (prs R S) f cap m (R.length*S.length) 12 96:=by
 have hm:=W.hm;refine⟨W.lc,zbX R S,λq hq=>⟨zkc (W.fR.ne _ (zbW hq).1) (W.fR.low _ (zbW hq).1),zkc (W.fS.ne _ (zbW hq).2) (W.fS.low _ (zbW hq).2)⟩,W.f0,W.f1,W.wf.mono dM,W.wc,W.pc,dM,dM,⟨hm.1,oM⟩,⟨?_,by have:=W.n9;omega⟩,?_⟩
 ·have:=Nat.mul_le_mul W.fR.len.1 W.fS.len.1;omega
 ·obtain rfl|rfl|rfl|rfl|rfl:m=1\/m=2\/m=3\/m=4\/m=5:=oM
  all_goals decide
end Go.Proofs.YtfgffkmddanjjaaGreatDoor
