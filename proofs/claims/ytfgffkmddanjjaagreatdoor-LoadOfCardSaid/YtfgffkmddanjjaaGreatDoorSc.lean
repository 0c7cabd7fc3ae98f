/-
  The simplex method: the leaving row: its regions, each over a frame of variables.
-/
import Derived.Test.YtfgffkmddanjjaaGreatDoorSa
import Derived.Test.YtfgffkmddanjjaaGreatDoorFlowX
import Derived.Test.YtfgffkmddanjjaaGreatDoorE14
import Derived.Deep.CutBlock
set_option linter.unusedVariables false
set_option linter.unusedSimpArgs false
set_option maxRecDepth 100000
set_option maxHeartbeats 25600000
namespace Go.Proofs.YtfgffkmddanjjaaGreatDoor
open _root_.Go.Proofs.Tryz
open Go.RowKit
variable {Q:Exit->Act->Wo->Prop} {ca cb g ga gb i q:Nat} {bs cr rr:Nat->Nat} {L:Nat->Nat->Rat} {x0 x1 x10 x100 x101 x11 x12 x13 x14 x15 x16 x17 x18 x19 x2 x20 x21 x22 x23 x24 x25 x26 x27 x28 x29 x3 x30 x31 x32 x33 x34 x35 x36 x37 x38 x39 x4 x40 x41 x42 x43 x44 x45 x46 x47 x48 x49 x5 x50 x51 x52 x53 x54 x55 x56 x57 x58 x59 x6 x60 x61 x62 x63 x64 x65 x66 x67 x68 x69 x7 x70 x71 x72 x73 x74 x75 x76 x77 x78 x79 x8 x80 x81 x82 x83 x84 x85 x86 x87 x88 x89 x9 x90 x91 x92 x93 x94 x95 x96 x97 x98 x99:Vl}
def zd9(k q:Nat)(L:Nat->Nat->Rat)(bs:Nat->Nat)(i:Nat)(z:Int)(ls:Rat):Prop :=
 (z=-1/\∀t,t<i->¬0<L t k)\/∃r:Nat,z=(r:Int)/\r<i/\0<L r k/\ls=L r q / L r k/\∀t,t<i->0<L t k->L r q / L r k<L t q / L t k\/(L r q / L r k=L t q / L t k/\bs r<=bs t)
def zpE(k q:Nat)(L:Nat->Nat->Rat)(bs:Nat->Nat)(m:Nat)(z:Int):Prop :=
 (z=-1/\∀t,t<m->¬0<L t k)\/∃r:Nat,z=(r:Int)/\r<m/\0<L r k/\∀t,t<m->0<L t k->L r q / L r k<L t q / L t k\/(L r q / L r k=L t q / L t k/\bs r<=bs t)
section
variable {k q : Nat} {L : Nat → Nat → Rat} {bs : Nat → Nat} {i : Nat} {z : Int} {ls : Rat}
theorem zd9.start:zd9 k q L bs 0 (-1) ls:=.inl ⟨rfl,λt ht=>by omega⟩
theorem zd9.toZ(h:zd9 k q L bs i z ls):zpE k q L bs i z:=by
 rcases h with h|⟨r,h1,h2,h3,_,h5⟩
 ·exact .inl h
 ·exact .inr ⟨r,h1,h2,h3,h5⟩
theorem zd9.skip(h:zd9 k q L bs i z ls)(hn:¬0<L i k):zd9 k q L bs (i+1) z ls:=by
 have key:∀t,t<i+1->0<L t k->t<i:=λt ht h0=>by
  rcases Nat.lt_or_ge t i with h|h
  ·exact h
  ·obtain rfl:t=i:=oM;exact absurd h0 hn
 rcases h with⟨h1,h2⟩|⟨r,h1,h2,h3,h4,h5⟩
 ·exact .inl ⟨h1,λt ht h0=>h2 t (key t ht h0) h0⟩
 ·exact .inr ⟨r,h1,oM,h3,h4,λt ht h0=>h5 t (key t ht h0) h0⟩
theorem zd9.first(h:zd9 k q L bs i (-1) ls)(hp:0<L i k):zd9 k q L bs (i+1) (i:Int) (L i q / L i k):=by
 rcases h with⟨_,h2⟩|⟨r,h1,_⟩
 ·refine .inr ⟨i,rfl,oM,hp,rfl,λt ht h0=>?_⟩;rcases Nat.lt_or_ge t i with h|h
  ·exact absurd h0 (h2 t h)
  ·obtain rfl:t=i:=oM;exact .inr ⟨rfl,nl⟩
 ·omega
theorem zm0{a b:Rat}:Rq.cmpQ a b<0↔a<b:=by
 unfold Rq.cmpQ
 by_cases h1:a<b
 ·rw[if_pos h1];exact⟨λ_=>h1,λ_=>by decide⟩
 ·rw[if_neg h1];refine⟨λh=>?_,λh=>absurd h h1⟩
  split at h<;>exact absurd h dM
theorem zm1{a b:Rat}:0<Rq.cmpQ a b↔b<a:=by
 unfold Rq.cmpQ
 by_cases h1:a<b
 ·rw[if_pos h1];exact⟨λh=>absurd h dM,λh=>absurd h (Rat.not_lt.2 (Rat.le_of_lt h1))⟩
 ·rw[if_neg h1]
  by_cases h2:b<a
  ·rw[if_pos h2];exact⟨λ_=>h2,λ_=>by decide⟩
  ·rw[if_neg h2];exact⟨λh=>absurd h dM,λh=>absurd h h2⟩
theorem zj7{a b:Rat}:Rq.cmpQ a b=0↔a=b:=by
 unfold Rq.cmpQ
 by_cases h1:a<b
 ·rw[if_pos h1];exact⟨λh=>absurd h dM,λh=>absurd (h▸h1) Rat.lt_irrefl⟩
 ·rw[if_neg h1]
  by_cases h2:b<a
  ·rw[if_pos h2];exact⟨λh=>absurd h dM,λh=>absurd (h▸h2) Rat.lt_irrefl⟩
  ·rw[if_neg h2];exact⟨λ_=>Rat.le_antisymm (Rat.not_lt.1 h2) (Rat.not_lt.1 h1),λ_=>rfl⟩
theorem zo4{a b c:Rat}(h1:a<b)(h2:b<c):a<c:=Rat.not_le.1 λh=>Rat.not_le.2 h1 (Rat.le_trans (Rat.le_of_lt h2) h)
theorem zd9.worse(h:zd9 k q L bs i z ls){r:Nat}(hr:z=(r:Int))(hw:ls<L i q / L i k\/(ls=L i q / L i k/\bs r<=bs i)):zd9 k q L bs (i+1) z ls:=by
 rcases h with⟨h1,_⟩|⟨r',h1,h2,h3,h4,h5⟩
 ·omega
 ·obtain rfl:r'=r:=oM;refine .inr ⟨r',h1,oM,h3,h4,λt ht h0=>?_⟩;rcases Nat.lt_or_ge t i with h|h
  ·exact h5 t h h0
  ·obtain rfl:t=i:=oM;rw[<-h4];exact hw
theorem zd9.better(h:zd9 k q L bs i z ls){r:Nat}(hr:z=(r:Int))(hp:0<L i k)(hw:L i q / L i k<ls\/(L i q / L i k=ls/\bs i<=bs r)):zd9 k q L bs (i+1) (i:Int) (L i q / L i k):=by
 rcases h with⟨h1,_⟩|⟨r',h1,h2,h3,h4,h5⟩
 ·omega
 ·obtain rfl:r'=r:=oM;refine .inr ⟨i,rfl,oM,hp,rfl,λt ht h0=>?_⟩;rcases Nat.lt_or_ge t i with h|h
  ·rw[h4]at hw;rcases h5 t h h0 with h6|⟨h6,h7⟩
   ·rcases hw with h8|⟨h8,_⟩
    ·exact .inl (zo4 h8 h6)
    ·exact .inl (by rw[h8];exact h6)
   ·rcases hw with h8|⟨h8,h9⟩
    ·exact .inl (by rw[<-h6];exact h8)
    ·exact .inr ⟨by rw[h8];exact h6,oM⟩
  ·obtain rfl:t=i:=oM;exact .inr ⟨rfl,nl⟩
end
theorem zhw(z:Int):zaB z<=0↔¬0<z:=by
 unfold zaB
 split
 ·next h=>simp[h]
 ·next h=>split<;>omega
theorem ze3{r:Rat}:0<r↔0<r.num:=by
 rw[Rat.lt_iff];simp
theorem zmx{r:Rat}:r<0↔r.num<0:=by
 rw[Rat.lt_iff];simp
theorem lv7{B m n:Nat}{k:Nat}{rq:Rat}{w:Wo}
  (h:TB w B g ga ca gb cb m n q rr cr L bs)(hlt:i<m)(hk:k<q)(Hne:Hid ((L i k).num≠0))(HDS:Hid (zlI (L i q) (L i k)))(Hrq:Hid (rq=L i q / L i k))
  (hQ:∀(T:Nat->Vl)(W:Wo)(g8:Nat)(J5:Bool)(ao5:OA)(n5 Y5:Nat)(K5:Bool)(ap5:OA)(m5 Z5:Nat),w.heap.size<=g8->Row W g8 32 [.bool J5,.slice ao5 n5 Y5,.bool K5,.slice ap5 m5 Z5]->zad W (qA J5 ao5 n5 Y5 K5 ap5 m5 Z5) rq->BH w W->Q .normal {tmps:=List.toArray ((.pointer (some ⟨g,0,none⟩))::(.int .i64 (k:Nat))::x2::x3::x4::x5::x6::(.int .i64 (i:Nat))::(.pointer (some ⟨g8,0,none⟩))::x9::x10::x11::x12::x13::x14::x15::x16::x17::x18::x19::x20::x21::x22::x23::x24::x25::x26::x27::x28::x29::(T 30)::(T 31)::(T 32)::(T 33)::(T 34)::(T 35)::(T 36)::(T 37)::(T 38)::(T 39)::(T 40)::(T 41)::(T 42)::(T 43)::(T 44)::(T 45)::(T 46)::(T 47)::(T 48)::(T 49)::(T 50)::(T 51)::(T 52)::(T 53)::(T 54)::(T 55)::x56::x57::x58::x59::x60::x61::x62::x63::x64::x65::x66::x67::x68::x69::x70::x71::x72::x73::x74::x75::x76::x77::x78::x79::x80::x81::x82::x83::x84::x85::x86::x87::x88::x89::x90::x91::x92::x93::x94::x95::x96::x97::x98::x99::x100::x101::[]),defers:=[]} W) :
  Code.wp Tryz.prog (rgn Tryz.f156 7) Q {tmps:=List.toArray ((.pointer (some ⟨g,0,none⟩))::(.int .i64 (k:Nat))::x2::x3::x4::x5::x6::(.int .i64 (i:Nat))::x8::x9::x10::x11::x12::x13::x14::x15::x16::x17::x18::x19::x20::x21::x22::x23::x24::x25::x26::x27::x28::x29::x30::x31::x32::x33::x34::x35::x36::x37::x38::x39::x40::x41::x42::x43::x44::x45::x46::x47::x48::x49::x50::x51::x52::x53::x54::x55::x56::x57::x58::x59::x60::x61::x62::x63::x64::x65::x66::x67::x68::x69::x70::x71::x72::x73::x74::x75::x76::x77::x78::x79::x80::x81::x82::x83::x84::x85::x86::x87::x88::x89::x90::x91::x92::x93::x94::x95::x96::x97::x98::x99::x100::x101::[]),defers:=[]} w:=by
 have HQ0:=hii hQ;clear hQ
 conv=>arg 2;whnf
 have hxi:(i:Int)<(m:Int)+1:=oM;have hxq:(q:Int)<(q:Int)+1:=oM;have hxk:(k:Int)<(q:Int)+1:=oM;obtain⟨hm,hn⟩:=h.small;have Hq:=hii h.wq;obtain⟨J3,ao3,n3,Y3,K3,ap3,m3,Z3,y0,y1,y2,y3,-,-,-,-,V3⟩:=h.cells4 (i:=i) (j:=q) oM oM;have z3:zft w (rr i) (q*4) (.bool J3) (.slice ao3 n3 Y3) (.bool K3) (.slice ap3 m3 Z3):=⟨y0,y1,y2,y3,trivial,trivial,trivial,trivial⟩;obtain⟨J4,ao4,n4,Y4,K4,ap4,m4,Z4,y4,y5,y6,y7,-,-,-,-,V4⟩:=h.cells4 (i:=i) (j:=k) oM oM;have z4:zft w (rr i) (k*4) (.bool J4) (.slice ao4 n4 Y4) (.bool K4) (.slice ap4 m4 Z4):=⟨y4,y5,y6,y7,trivial,trivial,trivial,trivial⟩;clear y0 y1 y2 y3 y4 y5 y6 y7;refine zan (wx:=w) (λ_=>False) [(λ_ X _=>X 0=.pointer (some ⟨g,0,none⟩)),(λ_ X _=>X 1=.pointer (some ⟨g,0,none⟩)),(λ_ X _=>X 2=.pointer (some ⟨g,0,none⟩)),(λ_ X _=>X 3=.pointer (some ⟨g,2,none⟩)),(λ_ X _=>X 4=.slice (some ⟨ga,0,none⟩) (m+1) ca),(λ_ X _=>X 5=.int .i64 (i:Nat)),(λ_ X _=>X 6=.pointer (some ⟨ga,i,none⟩)),(λ_ X _=>X 7=.slice (some ⟨rr i,0,none⟩) (q+1) (cr i)),(λ_ X _=>X 8=.pointer (some ⟨g,0,none⟩)),(λ_ X _=>X 9=.int .i64 (q:Nat)),(λ_ X _=>X 10=.pointer (some ⟨rr i,q*4,none⟩)),(λ_ X _=>X 11=.agg #[.bool J3,.slice ao3 n3 Y3,.bool K3,.slice ap3 m3 Z3]),(λ_ X _=>X 12=.pointer (some ⟨g,0,none⟩)),(λ_ X _=>X 13=.pointer (some ⟨g,0,none⟩)),(λ_ X _=>X 14=.pointer (some ⟨g,2,none⟩)),(λ_ X _=>X 15=.slice (some ⟨ga,0,none⟩) (m+1) ca),(λ_ X _=>X 16=.int .i64 (i:Nat)),(λ_ X _=>X 17=.pointer (some ⟨ga,i,none⟩)),(λ_ X _=>X 18=.slice (some ⟨rr i,0,none⟩) (q+1) (cr i)),(λ_ X _=>X 19=.int .i64 (k:Nat)),(λ_ X _=>X 20=.pointer (some ⟨rr i,k*4,none⟩)),(λ_ X _=>X 21=.agg #[.bool J4,.slice ao4 n4 Y4,.bool K4,.slice ap4 m4 Z4]),(λG X W=>((λG W v=>∃a,v=.tuple #[a,.int .i64 0]/\zad W a rq):FV) G W (X 22)),(λG X W=>((FQ rq):FV) G W (X 23)),(λ_ X _=>X 24=.int .i64 0),(λG X W=>((FQ rq):FV) G W (X 25)),(λ_ _ _=>True),(λ_ _ _=>True)] [some 30,some 31,some 32,some 33,some 34,some 35,some 36,some 37,some 38,some 39,some 40,some 41,some 42,some 43,some 44,some 45,some 46,some 47,some 48,some 49,some 50,some 51,some 52,some 53,some 54,some 55,some 8,none] [none,none,none,none,none,none,none,none,none,none,none,none,none,none,none,none,none,none,none,none,none,none,none,none,none,none,some ⟨27,25,32,[.bool false,.slice none 0 0,.bool false,.slice none 0 0]⟩,none] [30,31,32,33,34,35,36,37,38,39,40,41,42,43,44,45,46,47,48,49,50,51,52,53,54,55,8] ⟨(by intro u hu k z e;subst e;simp at hu),trivial⟩ (λb h=>h) br ⟨zaa _ _ _,zaa _ _ _,zaa _ _ _,zaa _ _ _,zaa _ _ _,zaa _ _ _,zaa _ _ _,zaa _ _ _,zaa _ _ _,zaa _ _ _,zaa _ _ _,zaa _ _ _,zaa _ _ _,zaa _ _ _,zaa _ _ _,zaa _ _ _,zaa _ _ _,zaa _ _ _,zaa _ _ _,zaa _ _ _,zaa _ _ _,zaa _ _ _,(zaq (F:=λG W v=>∃a,v=.tuple #[a,.int .i64 0]/\zad W a rq) λG G' W W' v ⟨a,e,h⟩ hk hn hG=>⟨a,e,h.kept hk hn⟩),zaQ _,zaa _ _ _,zaQ _,zaj _,zaj _,trivial⟩ ⟨⟨λ_ _ _=>trivial,λ_ _ _=>trivial⟩,trivial⟩ ⟨tX,tX,tX,tX,?s4,tX,tX,?s7,tX,?s9,tX,?s11,tX,tX,tX,?s15,tX,tX,?s18,tX,tX,?s21,?s22,?s23,?s24,?s25,?s26,?s27,trivial⟩ ⟨?b26,trivial⟩ ?he
 case' s4|s7|s9|s11|s15|s18|s21|s22|s23|s24|s25=>
  rintro-G T W hb hHG hGW hGo hNG hA K hK;simp only[yA,yB,Region.binds]at hA;simp only[sA,hA]at hK|-
 case' s4|s7|s9|s11|s15|s18|s21|s22=>
  have HK:=hii hK;clear hK hA
 case' s4|s15=>
  obtain⟨x0,x1,x2,x3,x4⟩:=(h.mono hb).box.n5
 case' s7|s18=>
  have x5:=(h.mono hb).o i oM
 case' s11=>
  obtain⟨f0,f1,f2,f3,_,_,_,_⟩:=z3.mono hb
 case' s21=>
  obtain⟨f0,f1,f2,f3,_,_,_,_⟩:=z4.mono hb
 case s4|s7|s11|s15|s18|s21=>
  exact cK
 case s9=>
  refine wO rfl ?_;go_simp;go_fit (zcJ g ga ca gb cb m n q Hq.o hm hn W (h.mono hb).box);rintro e w1⟨rfl,hb1⟩
  try dsimp only
  exact HK.o _ _ (hb1) λX hX _=>hX
 case s22=>
  refine wO rfl ?_;go_simp;go_fit (zlH _ _ (L i q) (L i k) 0 W (V3.mono hb) (V4.mono hb) Hne (hii (KQ.ok HDS.o)) (h.mono hb).Env');rintro e w1⟨hr,hb1⟩;obtain⟨J6,ao6,n6,Y6,K6,ap6,m6,Z6,rfl,h1,h2⟩:=hr.got;rw[<-Hrq.o]at h1 h2
  try dsimp only
  exact HK.o _ _ (hb1) λX hX _=>by
   show((λG W v=>∃a,v=.tuple #[a,.int .i64 0]/\zad W a rq):FV) G _ (X 22)
   rw[hX];exact⟨_,rfl,zad.mk' h1 h2⟩
 case s23=>
  have r22:((λG W v=>∃a,v=.tuple #[a,.int .i64 0]/\zad W a rq):FV) G W (T 52):=hA.1;obtain⟨a6,e22,h6⟩:=r22;simp only[e22]at hK|-;have HK:=hii hK;clear hK hA;refine wO rfl ?_;go_simp;exact HK.o _ _ br λX hX _=>by
   show((FQ rq):FV) G _ (X 23)
   exact eM
 case s24=>
  have r22:((λG W v=>∃a,v=.tuple #[a,.int .i64 0]/\zad W a rq):FV) G W (T 52):=hA.1;obtain⟨a6,e22,h6⟩:=r22;simp only[e22]at hK|-;exact dB
 case s25=>
  have r23:((FQ rq):FV) G W (T 53):=hA.2.1;have r22:((λG W v=>∃a,v=.tuple #[a,.int .i64 0]/\zad W a rq):FV) G W (T 52):=hA.2.2.2.1;have r23:zad W _ rq:=r23;obtain⟨J7,ao7,n7,Y7,K7,ap7,m7,Z7,e23⟩:=r23.parts;rw[e23]at r23;simp only[e23]at hK|-;have HK:=hii hK;clear hK hA;refine wO rfl ?_;go_simp;go_fit (zg8 _ _ _ _ _ _ _ _ _ W);rintro e w1⟨rfl,hb1⟩
  try dsimp only
  exact HK.o _ _ (hb1) λX hX _=>by
   show((FQ rq):FV) G _ (X 25)
   rw[hX];exact r23.mono hb1
 case s26=>exact λh=>absurd h dM
 case s27=>exact λh=>absurd h dM
 case b26=>
  refine⟨?_,?_⟩
  ·exact cG
  ·rintro o ho G T W nb hA hp hrow K hK;obtain rfl:=Option.some.inj ho;have ep:T 8=.pointer (some ⟨nb,0,none⟩):=hp;have r25:((FQ rq):FV) G W (T 55):=hA.2.1;have e0:T 30=_:=hA.2.2.2.1;have e1:T 31=_:=hA.2.2.2.2.1;have e2:T 32=_:=hA.2.2.2.2.2.1;have e3:T 33=_:=hA.2.2.2.2.2.2.1;have e4:T 34=_:=hA.2.2.2.2.2.2.2.1;have e5:T 35=_:=hA.2.2.2.2.2.2.2.2.1;have e6:T 36=_:=hA.2.2.2.2.2.2.2.2.2.1;have e7:T 37=_:=hA.2.2.2.2.2.2.2.2.2.2.1;have e8:T 38=_:=hA.2.2.2.2.2.2.2.2.2.2.2.1;have e9:T 39=_:=hA.2.2.2.2.2.2.2.2.2.2.2.2.1;have e10:T 40=_:=hA.2.2.2.2.2.2.2.2.2.2.2.2.2.1;have e11:T 41=_:=hA.2.2.2.2.2.2.2.2.2.2.2.2.2.2.1;have e12:T 42=_:=hA.2.2.2.2.2.2.2.2.2.2.2.2.2.2.2.1;have e13:T 43=_:=hA.2.2.2.2.2.2.2.2.2.2.2.2.2.2.2.2.1;have e14:T 44=_:=hA.2.2.2.2.2.2.2.2.2.2.2.2.2.2.2.2.2.1;have e15:T 45=_:=hA.2.2.2.2.2.2.2.2.2.2.2.2.2.2.2.2.2.2.1;have e16:T 46=_:=hA.2.2.2.2.2.2.2.2.2.2.2.2.2.2.2.2.2.2.2.1;have e17:T 47=_:=hA.2.2.2.2.2.2.2.2.2.2.2.2.2.2.2.2.2.2.2.2.1;have e18:T 48=_:=hA.2.2.2.2.2.2.2.2.2.2.2.2.2.2.2.2.2.2.2.2.2.1;have e19:T 49=_:=hA.2.2.2.2.2.2.2.2.2.2.2.2.2.2.2.2.2.2.2.2.2.2.1;have e20:T 50=_:=hA.2.2.2.2.2.2.2.2.2.2.2.2.2.2.2.2.2.2.2.2.2.2.2.1;have e21:T 51=_:=hA.2.2.2.2.2.2.2.2.2.2.2.2.2.2.2.2.2.2.2.2.2.2.2.2.1;have r22:((λG W v=>∃a,v=.tuple #[a,.int .i64 0]/\zad W a rq):FV) G W (T 52):=hA.2.2.2.2.2.2.2.2.2.2.2.2.2.2.2.2.2.2.2.2.2.2.2.2.2.1;have r23:((FQ rq):FV) G W (T 53):=hA.2.2.2.2.2.2.2.2.2.2.2.2.2.2.2.2.2.2.2.2.2.2.2.2.2.2.1;have e24:T 54=_:=hA.2.2.2.2.2.2.2.2.2.2.2.2.2.2.2.2.2.2.2.2.2.2.2.2.2.2.2.1;have r25:zad W _ rq:=r25;obtain⟨J8,ao8,n8,Y8,K8,ap8,m8,Z8,e25⟩:=r25.parts;have hK:=hK [.bool J8,.slice ao8 n8 Y8,.bool K8,.slice ap8 m8 Z8] (.inl e25) rfl (by intro u hu k z e;subst e;simp at hu);simp only[sA,ep,e0,e1,e2,e3,e4,e5,e6,e7,e8,e9,e10,e11,e12,e13,e14,e15,e16,e17,e18,e19,e20,e21,e24,e25]at hK|-;exact cJ
 case he=>
  rintro GG N T W hb hHG hGW hGo hbox hNG hne hA;have fv:((FQ rq):FV) GG W (T 55):=hA.at 25 dM;obtain⟨ep,_,hge,vs,hsto,hrow⟩:=hbox 26 _ rfl;have ep:T 8=.pointer (some ⟨N 26,0,none⟩):=ep;have fv:zad W _ rq:=fv;obtain⟨J5,ao5,n5,Y5,K5,ap5,m5,Z5,e5⟩:=fv.parts;obtain rfl:=hsto.four e5;rw[e5]at fv;simp only[sA,ep];exact HQ0.o T W (N 26) _ _ _ _ _ _ _ _ hge hrow fv hb
theorem zo3{g6 g8:Nat}{J1:Bool}{ao1:OA}{n1 Y1:Nat}{K1:Bool}{ap1:OA}{m1 Z1:Nat}{J5:Bool}{ao5:OA}{n5 Y5:Nat}{K5:Bool}{ap5:OA}{m5 Z5:Nat}{w:Wo}
  (r8:Row w g8 32 [.bool J5,.slice ao5 n5 Y5,.bool K5,.slice ap5 m5 Z5])(r6:Row w g6 32 [.bool J1,.slice ao1 n1 Y1,.bool K1,.slice ap1 m1 Z1])
  (hQ:∀(T:Nat->Vl)(W:Wo),Row W g6 32 [.bool J5,.slice ao5 n5 Y5,.bool K5,.slice ap5 m5 Z5]->zah (λb=>b=g6) w W->Q .normal {tmps:=List.toArray (x0::x1::x2::x3::x4::(.int .i64 (i:Nat))::(.pointer (some ⟨g6,0,none⟩))::(.int .i64 (i:Nat))::(.pointer (some ⟨g8,0,none⟩))::x9::x10::x11::x12::x13::x14::x15::x16::x17::x18::x19::x20::x21::x22::x23::x24::x25::x26::x27::x28::x29::x30::x31::x32::x33::x34::x35::x36::x37::x38::x39::x40::x41::x42::x43::x44::x45::x46::x47::x48::x49::x50::x51::x52::x53::x54::x55::x56::x57::x58::x59::x60::x61::x62::x63::x64::x65::x66::x67::x68::x69::x70::x71::x72::x73::x74::x75::x76::x77::x78::x79::x80::x81::x82::x83::x84::x85::x86::x87::x88::x89::x90::x91::x92::x93::x94::x95::x96::x97::(T 98)::(T 99)::x100::x101::[]),defers:=[]} W) :
  Code.wp Tryz.prog (rgn Tryz.f156 16) Q {tmps:=List.toArray (x0::x1::x2::x3::x4::x5::(.pointer (some ⟨g6,0,none⟩))::(.int .i64 (i:Nat))::(.pointer (some ⟨g8,0,none⟩))::x9::x10::x11::x12::x13::x14::x15::x16::x17::x18::x19::x20::x21::x22::x23::x24::x25::x26::x27::x28::x29::x30::x31::x32::x33::x34::x35::x36::x37::x38::x39::x40::x41::x42::x43::x44::x45::x46::x47::x48::x49::x50::x51::x52::x53::x54::x55::x56::x57::x58::x59::x60::x61::x62::x63::x64::x65::x66::x67::x68::x69::x70::x71::x72::x73::x74::x75::x76::x77::x78::x79::x80::x81::x82::x83::x84::x85::x86::x87::x88::x89::x90::x91::x92::x93::x94::x95::x96::x97::x98::x99::x100::x101::[]),defers:=[]} w:=by
 have HQ0:=hii hQ;clear hQ
 conv=>arg 2;whnf
 refine zbd (wx:=w) (λb=>b=g6) [vf (.int .i64 (i:Nat)),vf (.agg #[.bool J5,.slice ao5 n5 Y5,.bool K5,.slice ap5 m5 Z5]),vf (.int .i64 (i:Nat)),(λ_ _=>True)] [some 98,some 99,some 5,none] [98,99,5] 3 (λW=>Row W g8 32 [.bool J5,.slice ao5 n5 Y5,.bool K5,.slice ap5 m5 Z5]/\Row W g6 32 [.bool J1,.slice ao1 n1 Y1,.bool K1,.slice ap1 m1 Z1]) (λW=>Row W g6 32 [.bool J5,.slice ao5 n5 Y5,.bool K5,.slice ap5 m5 Z5]) dM ⟨r8.below br.drew,r6.below br.drew⟩ (λW W' h hb=>⟨h.1.below hb,h.2.below hb⟩) (λW W' h hb=>h.below hb) (zah.refl _) ⟨zab _ _,zab _ _,zab _ _,(λ_ _ _ h _=>h),trivial⟩ ⟨tP,?s1,tP,?s3,trivial⟩ ?he
 case s1=>
  rintro T W hk hp hA K hK;simp only[yA,yB,yC,Region.binds]at hA;simp only[sA,hA]at hK|-;have HK:=hii hK;clear hK hA;have hp:=hp (.inr dM);obtain⟨f0,f1,f2,f3⟩:=hp.1.n4;exact cV
 case s3=>
  rintro T W hk hp hA K hK;simp only[yA,yB,yC,Region.binds]at hA;simp only[sA,hA]at hK|-;have HK:=hii hK;clear hK hA;have hp:=hp (.inl rfl);obtain⟨k0,k1,k2,k3⟩:=hp.2.n4;have k4:=hp.2.free;refine wO rfl ?_;go_simp;exact HK.o undef _ ⟨λh=>absurd rfl h,λ_=>((((hp.2.set 0 _).set 1 _).set 2 _).set 3 _),((((zah.refl W:zah (λb=>b=g6) W W).setCell (p:=⟨g6,0,none⟩) rfl _).setCell (p:=⟨g6,1,none⟩) rfl _).setCell (p:=⟨g6,2,none⟩) rfl _).setCell (p:=⟨g6,3,none⟩) rfl _⟩ (trivial)
 case he=>
  rintro T W hk hR hA;have e2:T 5=.int .i64 (i:Nat):=hA.at 2 dM;simp only[sA,e2];exact HQ0.o T W hR hk
theorem zmJ{c:Int}{w:Wo}
  (hc:0<c)
  (hQ:∀(T:Nat->Vl)(W:Wo),BH w W->Q .normal {tmps:=List.toArray (x0::x1::x2::x3::x4::x5::x6::x7::x8::(.int .i64 c)::x10::x11::x12::x13::x14::x15::x16::x17::x18::x19::x20::x21::x22::x23::x24::x25::x26::x27::x28::x29::x30::x31::x32::x33::x34::x35::x36::x37::x38::x39::x40::x41::x42::x43::x44::x45::x46::x47::x48::x49::x50::x51::x52::x53::x54::x55::x56::x57::x58::x59::x60::x61::x62::x63::x64::x65::x66::x67::x68::x69::x70::x71::x72::x73::x74::(T 75)::(T 76)::(T 77)::(T 78)::(T 79)::(T 80)::(T 81)::(T 82)::(T 83)::(T 84)::(T 85)::(T 86)::(T 87)::(T 88)::(T 89)::(T 90)::(T 91)::(T 92)::(T 93)::(T 94)::(T 95)::(T 96)::(.bool true)::x98::x99::x100::x101::[]),defers:=[]} W) :
  Code.wp Tryz.prog (rgn Tryz.f156 15) Q {tmps:=List.toArray (x0::x1::x2::x3::x4::x5::x6::x7::x8::(.int .i64 c)::x10::x11::x12::x13::x14::x15::x16::x17::x18::x19::x20::x21::x22::x23::x24::x25::x26::x27::x28::x29::x30::x31::x32::x33::x34::x35::x36::x37::x38::x39::x40::x41::x42::x43::x44::x45::x46::x47::x48::x49::x50::x51::x52::x53::x54::x55::x56::x57::x58::x59::x60::x61::x62::x63::x64::x65::x66::x67::x68::x69::x70::x71::x72::x73::x74::x75::x76::x77::x78::x79::x80::x81::x82::x83::x84::x85::x86::x87::x88::x89::x90::x91::x92::x93::x94::x95::x96::x97::x98::x99::x100::x101::[]),defers:=[]} w:=by
 have HQ0:=hii hQ;clear hQ
 conv=>arg 2;whnf
 have hc1:decide (0<c)=true:=decide_eq_true hc;refine zae (wx:=w) [vf (.int .i64 c),vf (.bool true),vf (.bool true),vf undef,vf undef,vf undef,vf undef,vf undef,vf undef,vf undef,vf undef,vf undef,vf undef,vf undef,vf undef,vf undef,vf undef,vf undef,vf undef,vf undef,vf undef,vf undef,vf (.bool true)] [75,76,77,78,79,80,81,82,83,84,85,86,87,88,89,90,91,92,93,94,95,96,97] br zS ⟨tV,tV,tV,tU,tU,tU,tU,tU,tU,tU,tU,tU,tU,tU,tU,tU,tU,tU,tU,tU,tU,tU,tV,trivial⟩ ?he
 case he=>
  rintro T W hb hA;have f22:T 97=.bool true:=hA.at 22 dM;simp only[sA,f22];exact HQ0.o T W hb
theorem zmK{c:Int}{w:Wo}
  (hc:c<0)
  (hQ:∀(T:Nat->Vl)(W:Wo),BH w W->Q .normal {tmps:=List.toArray (x0::x1::x2::x3::x4::x5::x6::x7::x8::(.int .i64 c)::x10::x11::x12::x13::x14::x15::x16::x17::x18::x19::x20::x21::x22::x23::x24::x25::x26::x27::x28::x29::x30::x31::x32::x33::x34::x35::x36::x37::x38::x39::x40::x41::x42::x43::x44::x45::x46::x47::x48::x49::x50::x51::x52::x53::x54::x55::x56::x57::x58::x59::x60::x61::x62::x63::x64::x65::x66::x67::x68::x69::x70::x71::x72::x73::x74::(T 75)::(T 76)::(T 77)::(T 78)::(T 79)::(T 80)::(T 81)::(T 82)::(T 83)::(T 84)::(T 85)::(T 86)::(T 87)::(T 88)::(T 89)::(T 90)::(T 91)::(T 92)::(T 93)::(T 94)::(T 95)::(T 96)::(.bool false)::x98::x99::x100::x101::[]),defers:=[]} W) :
  Code.wp Tryz.prog (rgn Tryz.f156 15) Q {tmps:=List.toArray (x0::x1::x2::x3::x4::x5::x6::x7::x8::(.int .i64 c)::x10::x11::x12::x13::x14::x15::x16::x17::x18::x19::x20::x21::x22::x23::x24::x25::x26::x27::x28::x29::x30::x31::x32::x33::x34::x35::x36::x37::x38::x39::x40::x41::x42::x43::x44::x45::x46::x47::x48::x49::x50::x51::x52::x53::x54::x55::x56::x57::x58::x59::x60::x61::x62::x63::x64::x65::x66::x67::x68::x69::x70::x71::x72::x73::x74::x75::x76::x77::x78::x79::x80::x81::x82::x83::x84::x85::x86::x87::x88::x89::x90::x91::x92::x93::x94::x95::x96::x97::x98::x99::x100::x101::[]),defers:=[]} w:=by
 have HQ0:=hii hQ;clear hQ
 conv=>arg 2;whnf
 have hc1:decide (0<c)=false:=decide_eq_false oM;have hc2:(c==0)=false:=by simp;omega
 refine zae (wx:=w) [vf (.int .i64 c),vf (.bool false),vf (.bool false),vf (.int .i64 c),vf (.bool false),vf (.bool false),vf undef,vf undef,vf undef,vf undef,vf undef,vf undef,vf undef,vf undef,vf undef,vf undef,vf undef,vf undef,vf undef,vf undef,vf undef,vf (.bool false),vf (.bool false)] [75,76,77,78,79,80,81,82,83,84,85,86,87,88,89,90,91,92,93,94,95,96,97] br zS ⟨tV,tV,tV,tV,tV,tV,tU,tU,tU,tU,tU,tU,tU,tU,tU,tU,tU,tU,tU,tU,tU,tV,tV,trivial⟩ ?he
 case he=>
  rintro T W hb hA;have f22:T 97=.bool false:=hA.at 22 dM;simp only[sA,f22];exact HQ0.o T W hb
theorem zod{B m n:Nat}{r:Nat}{w:Wo}
  (h:TB w B g ga ca gb cb m n q rr cr L bs)(hi:i<m)(hr:r<m)
  (hQ:∀(T:Nat->Vl)(W:Wo),BH w W->Q .normal {tmps:=List.toArray ((.pointer (some ⟨g,0,none⟩))::x1::x2::x3::x4::(.int .i64 (r:Nat))::x6::(.int .i64 (i:Nat))::x8::(.int .i64 0)::x10::x11::x12::x13::x14::x15::x16::x17::x18::x19::x20::x21::x22::x23::x24::x25::x26::x27::x28::x29::x30::x31::x32::x33::x34::x35::x36::x37::x38::x39::x40::x41::x42::x43::x44::x45::x46::x47::x48::x49::x50::x51::x52::x53::x54::x55::x56::x57::x58::x59::x60::x61::x62::x63::x64::x65::x66::x67::x68::x69::x70::x71::x72::x73::x74::(T 75)::(T 76)::(T 77)::(T 78)::(T 79)::(T 80)::(T 81)::(T 82)::(T 83)::(T 84)::(T 85)::(T 86)::(T 87)::(T 88)::(T 89)::(T 90)::(T 91)::(T 92)::(T 93)::(T 94)::(T 95)::(T 96)::(.bool (decide (bs r<bs i)))::x98::x99::x100::x101::[]),defers:=[]} W) :
  Code.wp Tryz.prog (rgn Tryz.f156 15) Q {tmps:=List.toArray ((.pointer (some ⟨g,0,none⟩))::x1::x2::x3::x4::(.int .i64 (r:Nat))::x6::(.int .i64 (i:Nat))::x8::(.int .i64 0)::x10::x11::x12::x13::x14::x15::x16::x17::x18::x19::x20::x21::x22::x23::x24::x25::x26::x27::x28::x29::x30::x31::x32::x33::x34::x35::x36::x37::x38::x39::x40::x41::x42::x43::x44::x45::x46::x47::x48::x49::x50::x51::x52::x53::x54::x55::x56::x57::x58::x59::x60::x61::x62::x63::x64::x65::x66::x67::x68::x69::x70::x71::x72::x73::x74::x75::x76::x77::x78::x79::x80::x81::x82::x83::x84::x85::x86::x87::x88::x89::x90::x91::x92::x93::x94::x95::x96::x97::x98::x99::x100::x101::[]),defers:=[]} w:=by
 have HQ0:=hii hQ;clear hQ
 conv=>arg 2;whnf
 obtain⟨kk1,-⟩:=h.basAt hi;obtain⟨kk2,-⟩:=h.basAt hr;refine zae (wx:=w) [vf (.int .i64 0),vf (.bool false),vf (.bool false),vf (.int .i64 0),vf (.bool true),vf (.bool true),vf (.pointer (some ⟨g,0,none⟩)),vf (.pointer (some ⟨g,0,none⟩)),vf (.pointer (some ⟨g,3,none⟩)),vf (.slice (some ⟨gb,0,none⟩) m cb),vf (.int .i64 (i:Nat)),vf (.pointer (some ⟨gb,i,none⟩)),vf (.int .i64 (bs i:Nat)),vf (.pointer (some ⟨g,0,none⟩)),vf (.pointer (some ⟨g,0,none⟩)),vf (.pointer (some ⟨g,3,none⟩)),vf (.slice (some ⟨gb,0,none⟩) m cb),vf (.int .i64 (r:Nat)),vf (.pointer (some ⟨gb,r,none⟩)),vf (.int .i64 (bs r:Nat)),vf (.bool (decide (bs r<bs i))),vf (.bool (decide (bs r<bs i))),vf (.bool (decide (bs r<bs i)))] [75,76,77,78,79,80,81,82,83,84,85,86,87,88,89,90,91,92,93,94,95,96,97] br zS ⟨tV,tV,tV,tV,tV,tV,tV,tV,tV,?s9,tV,tV,?s12,tV,tV,tV,?s16,tV,tV,?s19,tV,tV,tV,trivial⟩ ?he
 case' s9|s12|s16|s19=>
  rintro T W hb hA K hK;simp only[yA,Region.binds]at hA;simp only[sA,hA]at hK|-;have HK:=hii hK;clear hK hA
 case' s9|s16=>
  obtain⟨x0,x1,x2,x3,x4⟩:=(h.mono hb).box.n5
 case' s12=>
  have y9:=(hb.cell (p:=⟨gb,i,none⟩) (zaf kk1)).trans kk1
 case' s19=>
  have y9:=(hb.cell (p:=⟨gb,r,none⟩) (zaf kk2)).trans kk2
 case s9|s12|s16|s19=>
  exact cH
 case he=>
  rintro T W hb hA;have f22:T 97=.bool (decide (bs r<bs i)):=hA.at 22 dM;simp only[sA,f22];exact HQ0.o T W hb
theorem ziz{B m n:Nat}(k:Nat)(w:Wo)(h:TB w B g ga ca gb cb m n q rr cr L bs)(hk:k<q)(hS:Hid (∀i,i<=m->∀j,j<q+1->Kb 1 (L i j))) :
  CP 156 #[.pointer (some ⟨g,0,none⟩),.int .i64 (k:Nat)] w λe w'=>(∃z:Int,e=.returned (.int .i64 z)/\Hid (zpE k q L bs m z))/\BH w w':=by
 have hq2:q<=2000:=by have:=h.wq;have:=h.small;omega
 obtain⟨hm,hn⟩:=h.small;go_enter func156,ntmps156;go_upto_region 3 with fail;have hb:=bA w (.cells #[.bool false,.slice none 0 0,.bool false,.slice none 0 0] 32);have r6:Row (w.alloc (.cells #[.bool false,.slice none 0 0,.bool false,.slice none 0 0] 32)) w.heap.size 32 [.bool false,.slice none 0 0,.bool false,.slice none 0 0]:=heap_alloc_new _ _;obtain⟨g6,hg⟩:=exi (w.heap.size);have Hg6:Hid (w.heap.size=g6):=hii hg.symm;rw[<-hg]at r6|-;clear hg;generalize w.alloc (.cells #[.bool false,.slice none 0 0,.bool false,.slice none 0 0] 32)=w1 at*;have hbw:=hb;clear hb;obtain⟨x0,x1,x2,x3,x4⟩:=(h.mono hbw).box.n5;go_wp2_with fail;clear x0 x1 x2 x3 x4;go_loopw [5,15] (λs5 s15 wr=>∃(i:Nat)(z:Int)(ls:Rat)(J1:Bool)(ao1:OA)(n1 Y1:Nat)(K1:Bool)(ap1:OA)(m1 Z1:Nat),i<=m/\s15=.int .i64 (i:Nat)/\s5=.int .i64 z/\Hid (zd9 k q L bs i z ls)/\Row wr g6 32 [.bool J1,.slice ao1 n1 Y1,.bool K1,.slice ap1 m1 Z1]/\Hid (0<=z->zad wr (qA J1 ao1 n1 Y1 K1 ap1 m1 Z1) ls/\Kb 2 ls)/\BH w wr) (λ_ s15 _=>m-(intOf s15).toNat)
 case atStart=>exact⟨0,-1,0,false,none,0,0,false,none,0,0,Nat.zero_le _,rfl,rfl,hii .start,r6,hii (λh=>absurd h dM),hbw⟩
 case round=>
  clear hbw r6;obtain⟨i,z,ls,J1,ao1,n1,Y1,K1,ap1,m1,Z1,hi,rfl,rfl,HL,r6,HR,hbw⟩:=hrel
  by_cases hlt:i<m
  ·obtain⟨x0,x1,x2,x3,x4⟩:=(h.mono hbw).box.n5;have x5:=(h.mono hbw).o i oM;have hxi:(i:Int)<(m:Int)+1:=oM;have hxk:(k:Int)<(q:Int)+1:=oM;obtain⟨J2,ao2,n2,Y2,K2,ap2,m2,Z2,y0,y1,y2,y3,-,-,-,-,V2⟩:=(h.mono hbw).cells4 (i:=i) (j:=k) oM oM;obtain⟨s,hs⟩:∃s,zaB (L i k).num=s:=⟨_,rfl⟩;have Hs:=hii hs;clear hs;go_wp2_with fail;go_fit (zbH _ (L i k) s wr Hs V2 (h.mono hbw).Env');rintro e w2⟨rfl,hb⟩;have hbw:=bu hbw hb;have r6:=r6.below hb;have HR:Hid (0<=z->zad w2 (qA J1 ao1 n1 Y1 K1 ap1 m1 Z1) ls/\Kb 2 ls):=hii λh0=>⟨(HR.o h0).1.mono hb,(HR.o h0).2⟩
   have V2:=V2.mono hb;clear hb x0 x1 x2 x3 x4 x5 y0 y1 y2 y3 hxi hxk V2
   by_cases hs0:s<=0
   ·have hnp:¬0<L i k:=λh0=>(zhw _).1 (by rw[Hs.o];exact hs0) (ze3.1 h0)
    have HL2:=hii (HL.o.skip hnp);clear hnp;go_wp2;go_roundw
    case rel=>exact⟨i+1,z,ls,J1,ao1,n1,Y1,K1,ap1,m1,Z1,oM,gM,rfl,HL2,r6,HR,hbw⟩
    case measure=>exact mM
   ·have hp:0<L i k:=ze3.2 (by have:=(zhw (L i k).num);rw[Hs.o]at this;omega);have Hp:=hii hp;have Hne:Hid ((L i k).num≠0):=hii (by have:=ze3.1 hp;omega);clear hp;have HKa:Hid (Kb 1 (L i q)):=hii (hS.o i oM q oM);have HKb:Hid (Kb 1 (L i k)):=hii (hS.o i oM k oM);have HDS:Hid (zlI (L i q) (L i k)):=hii (HKa.o.divS HKb.o dM);have HKq:Hid (Kb 2 (L i q / L i k)):=hii (HKa.o.div HKb.o Hne.o);obtain⟨rq,hrq⟩:∃rq,rq=L i q / L i k:=⟨_,rfl⟩;have Hrq:=hii hrq;have Hl6:=hii r6.lt;clear hrq;go_upto_region 7 with fail;refine lv7 (h.mono hbw) hlt hk Hne HDS Hrq ?_;rintro T w3 g8 J5 ao5 n5 Y5 K5 ap5 m5 Z5 hge r8 V5 hb;have r6:=r6.below hb;have HR:Hid (0<=z->zad w3 (qA J1 ao1 n1 Y1 K1 ap1 m1 Z1) ls/\Kb 2 ls):=hii λh0=>⟨(HR.o h0).1.mono hb,(HR.o h0).2⟩
    have hbw:=bu hbw hb;have H68:Hid (g8≠g6):=hii (by have:=Hl6.o;omega);clear hb hge HDS HKa HKb;have HZ:=HL.o;obtain⟨x0,x1,x2,x3,x4⟩:=(h.mono hbw).box.n5;rcases HZ with⟨rfl,-⟩|⟨r,rfl,hr,-,hls,-⟩
    ·have HL2:Hid (zd9 k q L bs (i+1) (i:Int) rq):=hii (by rw[Hrq.o];exact HL.o.first Hp.o);clear HL;go_upto_region 16 with fail;refine zo3 r8 r6 ?_;rintro T w9 hR hk9;have hno:=r6.noU (λu hu=>by simp at hu;rcases hu with rfl|rfl|rfl|rfl<;>intro z e<;>cases e);have V5:=V5.keptU hk9 hno;have hbw:=hbw.trans (hk9.below (λb e=>by have:=Hg6.o;omega) hbw.size);clear hno hk9 r6 r8;go_wp2;go_roundw
     case rel=>exact⟨i+1,(i:Int),rq,J5,ao5,n5,Y5,K5,ap5,m5,Z5,oM,gM,rfl,HL2,hR,hii (λ_=>⟨V5,by rw[Hrq.o];exact HKq.o⟩),hbw⟩
     case measure=>exact mM
    ·obtain⟨HV1,HK1⟩:=HR.o oM;have HVV:=hii HV1;have HCR:Hid (CrS rq ls):=hii (by rw[Hrq.o];exact HKq.o.crS HK1 dM);have Hls:=hii hls;have HK1:=hii HK1;clear hls HV1;obtain⟨c,hc⟩:∃c,c=Rq.cmpQ rq ls:=⟨_,rfl⟩;have HCM:=hii (zkB (.agg #[.bool J5,.slice ao5 n5 Y5,.bool K5,.slice ap5 m5 Z5]) (.agg #[.bool J1,.slice ao1 n1 Y1,.bool K1,.slice ap1 m1 Z1]) rq ls w3 V5 HVV.o HCR (h.mono hbw).Env');rw[<-hc]at HCM;have Hc:=hii hc;clear hc;obtain⟨f0,f1,f2,f3⟩:=r8.n4;obtain⟨k0,k1,k2,k3⟩:=r6.n4;go_wp2_with fail;go_fit (HCM.o);rintro e w4⟨rfl,hb⟩;have r6:=r6.below hb;have r8:=r8.below hb;have V5:=V5.mono hb;have HVV:=hii (HVV.o.mono hb);have hbw:=bu hbw hb;clear hb x0 x1 x2 x3 x4 f0 f1 f2 f3 k0 k1 k2 k3 HCM HR;have hrm:r<m:=oM;have hc3:0<c\/c<0\/c=0:=oM;have hc3:=hii hc3;go_upto_region 15 with fail;rcases hc3.o with hc|hc|hc
     ·refine zmJ hc ?_;rintro T w5 hb;have r6:=r6.below hb;have HVV:=hii (HVV.o.mono hb);have hbw:=bu hbw hb;clear hb;have HL2:Hid (zd9 k q L bs (i+1) (r:Int) ls):=hii (HL.o.worse rfl (.inl (by rw[<-Hrq.o];exact zm1.1 (by rw[<-Hc.o];exact hc))));clear hc;clear HL;go_wp2;go_roundw
      case rel=>exact⟨i+1,(r:Int),ls,J1,ao1,n1,Y1,K1,ap1,m1,Z1,oM,gM,rfl,HL2,r6,hii (λ_=>⟨HVV.o,HK1.o⟩),hbw⟩
      case measure=>exact mM
     ·refine zmK hc ?_;rintro T w5 hb;have r6:=r6.below hb;have r8:=r8.below hb;have V5:=V5.mono hb;have HVV:=hii (HVV.o.mono hb);have hbw:=bu hbw hb;clear hb;have HL2:Hid (zd9 k q L bs (i+1) (i:Int) rq):=hii (by rw[Hrq.o];exact HL.o.better rfl Hp.o (.inl (by rw[<-Hrq.o];exact zm0.1 (by rw[<-Hc.o];exact hc))));clear HL hc;go_upto_region 16 with fail;refine zo3 r8 r6 ?_;rintro T w9 hR hk9;have hno:=r6.noU (λu hu=>by simp at hu;rcases hu with rfl|rfl|rfl|rfl<;>intro z e<;>cases e);have V5:=V5.keptU hk9 hno;have hbw:=hbw.trans (hk9.below (λb e=>by have:=Hg6.o;omega) hbw.size);clear hno hk9 r6 r8;go_wp2;go_roundw
      case rel=>exact⟨i+1,(i:Int),rq,J5,ao5,n5,Y5,K5,ap5,m5,Z5,oM,gM,rfl,HL2,hR,hii (λ_=>⟨V5,by rw[Hrq.o];exact HKq.o⟩),hbw⟩
      case measure=>exact mM
     ·have HEQ:Hid (rq=ls):=hii (zj7.1 (by rw[<-Hc.o];exact hc));subst hc;refine zod (h.mono hbw) hlt hrm ?_;rintro T w5 hb;have r6:=r6.below hb;have r8:=r8.below hb;have V5:=V5.mono hb;have HVV:=hii (HVV.o.mono hb);have hbw:=bu hbw hb;clear hb
      by_cases hbb:bs r<bs i
      ·have hb1:decide (bs r<bs i)=true:=decide_eq_true hbb;have HL2:Hid (zd9 k q L bs (i+1) (r:Int) ls):=hii (HL.o.worse rfl (.inr ⟨by rw[<-Hrq.o];exact HEQ.o.symm,oM⟩));clear HL;go_wp2;go_roundw
       case rel=>exact⟨i+1,(r:Int),ls,J1,ao1,n1,Y1,K1,ap1,m1,Z1,oM,gM,rfl,HL2,r6,hii (λ_=>⟨HVV.o,HK1.o⟩),hbw⟩
       case measure=>exact mM
      ·have hb1:decide (bs r<bs i)=false:=decide_eq_false hbb;have HL2:Hid (zd9 k q L bs (i+1) (i:Int) rq):=hii (by rw[Hrq.o];exact HL.o.better rfl Hp.o (.inr ⟨by rw[<-Hrq.o];exact HEQ.o,oM⟩));clear HL;go_upto_region 16 with fail;refine zo3 r8 r6 ?_;rintro T w9 hR hk9;have hno:=r6.noU (λu hu=>by simp at hu;rcases hu with rfl|rfl|rfl|rfl<;>intro z e<;>cases e);have V5:=V5.keptU hk9 hno;have hbw:=hbw.trans (hk9.below (λb e=>by have:=Hg6.o;omega) hbw.size);clear hno hk9 r6 r8;go_wp2;go_roundw
       case rel=>exact⟨i+1,(i:Int),rq,J5,ao5,n5,Y5,K5,ap5,m5,Z5,oM,gM,rfl,HL2,hR,hii (λ_=>⟨V5,by rw[Hrq.o];exact HKq.o⟩),hbw⟩
       case measure=>exact mM
  ·obtain rfl:i=m:=oM;have HZ:=hii HL.o.toZ;go_wp2;go_ret;exact⟨⟨z,rfl,HZ⟩,hbw⟩
end Go.Proofs.YtfgffkmddanjjaaGreatDoor
